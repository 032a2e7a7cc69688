/- For every input the law LexerTokens returns true. Part 12 of 12. No condition. -/
import Derived.Test.YthbjlmoaceaeeaaLBk
set_option linter.unusedVariables false
set_option linter.unusedSimpArgs false
set_option maxRecDepth 100000
namespace Go.Proofs.Ythbjlmoaceaeeaa
open Go Go.Abs
theorem lexerTokens_pure (avs : List AV) (h : All2 (fun A a => A a) [fun a => ∃ x : List UInt8, x.length ≤ 140737488351232 ∧ a = .str x] avs) : Pure Try.prog 6 avs (.bool true) := by
    obtain ⟨_, rfl, ⟨x0, h0, rfl⟩⟩ := all2_1 h
    obtain ⟨fuel, hf⟩ := LexerTokens_true x0 h0
    have := law02_LexerTokens_ok fuel x0 true hf
    simpa using this
theorem lexerTokens_lifted (os : Os) (started : os.Started) (H : Type) (enc : TypeId × Value → H) :
    ReturnsInHanded {} Try.checked os 6 .any (Rows.lexerTokensSpec.pre6 enc Try.prog Try.f6 Rows.lexerTokensRow.domain false) (Rows.lexerTokensSpec.post enc Try.prog Try.f6 false true false false) := by
  refine law_lifted (C := Try.checked) (f := Try.f6) (s := Rows.lexerTokensSpec) own laid Try.func6 (by kernel_rfl) rfl Try.underlying4 rfl
    (fun H ds hd => by match ds, hd with | [_], _ => rfl)
    [fun a => ∃ x : List UInt8, x.length ≤ 140737488351232 ∧ a = .str x] ?_ ?_ lexerTokens_pure started
    (ChangeSpec.witness6 (enc := enc) (C := Try.checked) false ⟨#[], #[.string ⟨#[]⟩], []⟩ 8 (by kernel_rfl) (by kernel_rfl) (by kernel_rfl) (by kernel_rfl))
  · exact ⟨opens_str Try.underlying9, trivial⟩
  · intro t ht
    have h : t ∈ [9] := ht
    simp only [List.mem_cons, List.not_mem_nil, or_false] at h
    rcases h with rfl <;> exact ⟨by kernel_rfl, of_decide_eq_true (by kernel_rfl)⟩
theorem lexerTokens_said : Rows.LexerTokensSaid :=
  OpenClaim.holds_of_wide 6 Try.f6 rfl rfl rfl rfl rfl rfl rfl ⟨rfl, rfl, rfl, rfl, rfl⟩ rfl rfl rfl rfl rfl (by kernel_rfl) Try.func6 (by kernel_rfl)
    (of_decide_eq_true (by kernel_rfl)) (by unfold Func.isWrapper; first | (rw [if_pos (by decide +kernel)]; kernel_rfl) | (rw [if_neg (by decide +kernel)]; exact ⟨rfl, rfl⟩))
    (fun os started H enc _ => lexerTokens_lifted os started H enc)
end Go.Proofs.Ythbjlmoaceaeeaa
