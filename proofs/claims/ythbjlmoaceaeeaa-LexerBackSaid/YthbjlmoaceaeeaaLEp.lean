/- For every input the law LexerBack returns true. Part 16 of 16. No condition. -/
import Derived.Test.YthbjlmoaceaeeaaLEo
set_option linter.unusedVariables false
set_option linter.unusedSimpArgs false
set_option maxRecDepth 100000
namespace Go.Proofs.Ythbjlmoaceaeeaa
open Go Go.Abs
theorem lexerBack_pure (avs : List AV) (h : All2 (fun A a => A a) [fun a => ∃ l : List Api.Token, (l.length * 40 ≤ 140737488351232 ∧ ∀ x ∈ l, (fun _ => True) x) ∧ a = .sl (l.map Api.Token.c), fun a => ∃ x : List UInt8, x.length ≤ 140737488351232 ∧ a = .str x] avs) : Pure Try.prog 12 avs (.bool true) := by
    obtain ⟨_, _, rfl, ⟨x0, h0, rfl⟩, ⟨x1, h1, rfl⟩⟩ := all2_2 h
    obtain ⟨fuel, hf⟩ := LexerBack_true x0 x1 h0 h1
    have := law02_LexerBack_ok fuel x0 x1 true hf
    simpa using this
theorem lexerBack_lifted (os : Os) (started : os.Started) (H : Type) (enc : TypeId × Value → H) :
    ReturnsInHanded {} Try.checked os 12 .any (Rows.lexerBackSpec.pre6 enc Try.prog Try.f12 Rows.lexerBackRow.domain false) (Rows.lexerBackSpec.post enc Try.prog Try.f12 false true false false) := by
  refine law_lifted (C := Try.checked) (f := Try.f12) (s := Rows.lexerBackSpec) own laid Try.func12 (by kernel_rfl) rfl Try.underlying4 rfl
    (fun H ds hd => by match ds, hd with | [_, _], _ => rfl)
    [fun a => ∃ l : List Api.Token, (l.length * 40 ≤ 140737488351232 ∧ ∀ x ∈ l, (fun _ => True) x) ∧ a = .sl (l.map Api.Token.c), fun a => ∃ x : List UInt8, x.length ≤ 140737488351232 ∧ a = .str x] ?_ ?_ glob lexerBack_pure started
    (ChangeSpec.witness6 (enc := enc) (C := Try.checked) false ⟨#[], #[.slice none 0 0, .string ⟨#[]⟩], []⟩ 8 (by kernel_rfl) (by kernel_rfl) (by kernel_rfl) (by kernel_rfl))
  · exact ⟨opens_slice Try.underlying58 (m := 4) (b := 40) (by kernel_rfl) (by kernel_rfl) (by decide) (fun a => by simp) op75, opens_str Try.underlying9, trivial⟩
  · intro t ht
    have h : t ∈ [58, 9] := ht
    simp only [List.mem_cons, List.not_mem_nil, or_false] at h
    rcases h with rfl | rfl <;> exact ⟨by kernel_rfl, of_decide_eq_true (by kernel_rfl)⟩
theorem lexerBack_said : Rows.LexerBackSaid :=
  OpenClaim.holds_of_wide 12 Try.f12 rfl rfl rfl rfl rfl rfl rfl ⟨rfl, rfl, rfl, rfl, rfl⟩ rfl rfl rfl rfl rfl (by kernel_rfl) Try.func12 (by kernel_rfl)
    (of_decide_eq_true (by kernel_rfl)) (by unfold Func.isWrapper; first | (rw [if_pos (by decide +kernel)]; kernel_rfl) | (rw [if_neg (by decide +kernel)]; exact ⟨rfl, rfl⟩))
    (fun os started H enc _ => lexerBack_lifted os started H enc)
end Go.Proofs.Ythbjlmoaceaeeaa
