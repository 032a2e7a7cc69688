/- For every input the law LexerJoins returns true. Part 16 of 16. No condition. -/
import Derived.Test.YthbjlmoaceaeeaaLDo
set_option linter.unusedVariables false
set_option linter.unusedSimpArgs false
set_option maxRecDepth 100000
namespace Go.Proofs.Ythbjlmoaceaeeaa
open Go Go.Abs
theorem lexerJoins_pure (avs : List AV) (h : All2 (fun A a => A a) [fun a => ∃ l : List Api.Token, (l.length * 40 ≤ 140737488351232 ∧ ∀ x ∈ l, (fun _ => True) x) ∧ a = .sl (l.map Api.Token.c)] avs) : Pure Try.prog 11 avs (.bool true) := by
    obtain ⟨_, rfl, ⟨x0, h0, rfl⟩⟩ := all2_1 h
    obtain ⟨fuel, hf⟩ := LexerJoins_true x0 h0
    have := law02_LexerJoins_ok fuel x0 true hf
    simpa using this
theorem lexerJoins_lifted (os : Os) (started : os.Started) (H : Type) (enc : TypeId × Value → H) :
    ReturnsInHanded {} Try.checked os 11 .any (Rows.lexerJoinsSpec.pre6 enc Try.prog Try.f11 Rows.lexerJoinsRow.domain false) (Rows.lexerJoinsSpec.post enc Try.prog Try.f11 false true false false) := by
  refine law_lifted (C := Try.checked) (f := Try.f11) (s := Rows.lexerJoinsSpec) own laid Try.func11 (by kernel_rfl) rfl Try.underlying4 rfl
    (fun H ds hd => by match ds, hd with | [_], _ => rfl)
    [fun a => ∃ l : List Api.Token, (l.length * 40 ≤ 140737488351232 ∧ ∀ x ∈ l, (fun _ => True) x) ∧ a = .sl (l.map Api.Token.c)] ?_ ?_ glob lexerJoins_pure started
    (ChangeSpec.witness6 (enc := enc) (C := Try.checked) false ⟨#[], #[.slice none 0 0], []⟩ 8 (by kernel_rfl) (by kernel_rfl) (by kernel_rfl) (by kernel_rfl))
  · exact ⟨opens_slice Try.underlying58 (m := 4) (b := 40) (by kernel_rfl) (by kernel_rfl) (by decide) (fun a => by simp) op75, trivial⟩
  · intro t ht
    have h : t ∈ [58] := ht
    simp only [List.mem_cons, List.not_mem_nil, or_false] at h
    rcases h with rfl <;> exact ⟨by kernel_rfl, of_decide_eq_true (by kernel_rfl)⟩
theorem lexerJoins_said : Rows.LexerJoinsSaid :=
  OpenClaim.holds_of_wide 11 Try.f11 rfl rfl rfl rfl rfl rfl rfl ⟨rfl, rfl, rfl, rfl, rfl⟩ rfl rfl rfl rfl rfl (by kernel_rfl) Try.func11 (by kernel_rfl)
    (of_decide_eq_true (by kernel_rfl)) (by unfold Func.isWrapper; first | (rw [if_pos (by decide +kernel)]; kernel_rfl) | (rw [if_neg (by decide +kernel)]; exact ⟨rfl, rfl⟩))
    (fun os started H enc _ => lexerJoins_lifted os started H enc)
end Go.Proofs.Ythbjlmoaceaeeaa
