/- For every input the law LexerBlanks returns true. Part 15 of 15. No condition. -/
import Derived.Test.YthbjlmoaceaeeaaLCn
set_option linter.unusedVariables false
set_option linter.unusedSimpArgs false
set_option maxRecDepth 100000
namespace Go.Proofs.Ythbjlmoaceaeeaa
open Go Go.Abs
theorem lexerBlanks_pure (avs : List AV) (h : All2 (fun A a => A a) [fun a => ∃ x : List UInt8, x.length ≤ 140737488351232 ∧ a = .str x, fun a => ∃ x : List UInt8, x.length ≤ 140737488351232 ∧ a = .str x, fun a => ∃ x : UInt8, True ∧ a = .int .u8 x.toNat] avs) : Pure Try.prog 9 avs (.bool true) := by
    obtain ⟨_, _, _, rfl, ⟨x0, h0, rfl⟩, ⟨x1, h1, rfl⟩, ⟨x2, h2, rfl⟩⟩ := all2_3 h
    obtain ⟨fuel, hf⟩ := LexerBlanks_true x0 x1 x2 h0 h1
    have := law02_LexerBlanks_ok fuel x0 x1 x2 true hf
    simpa using this
theorem lexerBlanks_lifted (os : Os) (started : os.Started) (H : Type) (enc : TypeId × Value → H) :
    ReturnsInHanded {} Try.checked os 9 .any (Rows.lexerBlanksSpec.pre6 enc Try.prog Try.f9 Rows.lexerBlanksRow.domain false) (Rows.lexerBlanksSpec.post enc Try.prog Try.f9 false true false false) := by
  refine law_lifted (C := Try.checked) (f := Try.f9) (s := Rows.lexerBlanksSpec) own laid Try.func9 (by kernel_rfl) rfl Try.underlying4 rfl
    (fun H ds hd => by match ds, hd with | [_, _, _], _ => rfl)
    [fun a => ∃ x : List UInt8, x.length ≤ 140737488351232 ∧ a = .str x, fun a => ∃ x : List UInt8, x.length ≤ 140737488351232 ∧ a = .str x, fun a => ∃ x : UInt8, True ∧ a = .int .u8 x.toNat] ?_ ?_ lexerBlanks_pure started
    (ChangeSpec.witness6 (enc := enc) (C := Try.checked) false ⟨#[], #[.string ⟨#[]⟩, .string ⟨#[]⟩, .int .u8 0], []⟩ 8 (by kernel_rfl) (by kernel_rfl) (by kernel_rfl) (by kernel_rfl))
  · exact ⟨opens_str Try.underlying9, opens_str Try.underlying9, opens_byte Try.underlying5, trivial⟩
  · intro t ht
    have h : t ∈ [9, 9, 5] := ht
    simp only [List.mem_cons, List.not_mem_nil, or_false] at h
    rcases h with rfl | rfl | rfl <;> exact ⟨by kernel_rfl, of_decide_eq_true (by kernel_rfl)⟩
theorem lexerBlanks_said : Rows.LexerBlanksSaid :=
  OpenClaim.holds_of_wide 9 Try.f9 rfl rfl rfl rfl rfl rfl rfl ⟨rfl, rfl, rfl, rfl, rfl⟩ rfl rfl rfl rfl rfl (by kernel_rfl) Try.func9 (by kernel_rfl)
    (of_decide_eq_true (by kernel_rfl)) (by unfold Func.isWrapper; first | (rw [if_pos (by decide +kernel)]; kernel_rfl) | (rw [if_neg (by decide +kernel)]; exact ⟨rfl, rfl⟩))
    (fun os started H enc _ => lexerBlanks_lifted os started H enc)
end Go.Proofs.Ythbjlmoaceaeeaa
