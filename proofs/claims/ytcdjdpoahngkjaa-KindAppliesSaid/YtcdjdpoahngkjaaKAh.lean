/- For every two kinds the law KindApplies returns true. Part 8 of 8. No condition. -/
import Derived.Test.YtcdjdpoahngkjaaKAg
set_option linter.unusedVariables false
set_option linter.unusedSimpArgs false
namespace Go.Proofs.Ytcdjdpoahngkjaa
open Go Go.Abs
theorem kindApplies_pure (avs : List AV) (h : All2 (fun A a => A a) [fun a => ∃ x : Api.Kind, True ∧ a = .agg x.c, fun a => ∃ x : Api.Kind, True ∧ a = .agg x.c] avs) : Pure Try.prog 3 avs (.bool true) := by
  match avs, h with
  | [_, _], h =>
    obtain ⟨⟨x, _, rfl⟩, ⟨y, _, rfl⟩, _⟩ := h
    obtain ⟨fuel, hf⟩ := Applies_true x y
    have := law08_KindApplies_ok fuel x y true hf
    simpa using this
theorem kindApplies_lifted (os : Os) (started : os.Started) (H : Type) (enc : TypeId × Value → H) :
    ReturnsInHanded {} Try.checked os 3 .any (Rows.kindAppliesSpec.pre6 enc Try.prog Try.f3 Rows.kindAppliesRow.domain false) (Rows.kindAppliesSpec.post enc Try.prog Try.f3 false true false false) := by
  refine law_lifted (C := Try.checked) (f := Try.f3) (s := Rows.kindAppliesSpec) own laid Try.func3 (by kernel_rfl) rfl Try.underlying4 rfl
    (fun H ds hd => by match ds, hd with | [_, _], _ => rfl)
    [fun a => ∃ x : Api.Kind, True ∧ a = .agg x.c, fun a => ∃ x : Api.Kind, True ∧ a = .agg x.c] ?_ ?_ kindApplies_pure started
    (ChangeSpec.witness6 (enc := enc) (C := Try.checked) false ⟨#[], #[.agg #[.slice none 0 0], .agg #[.slice none 0 0]], []⟩ 8 (by kernel_rfl) (by kernel_rfl) (by kernel_rfl) (by kernel_rfl))
  · exact ⟨opens_struct Try.underlying24 op24, opens_struct Try.underlying24 op24, trivial⟩
  · intro t ht
    have : t = 24 := by
      have h : t ∈ [24, 24] := ht
      simpa using h
    subst this
    exact ⟨by kernel_rfl, of_decide_eq_true (by kernel_rfl)⟩
theorem kindApplies_said : Rows.KindAppliesSaid :=
  OpenClaim.holds_of_wide 3 Try.f3 rfl rfl rfl rfl rfl rfl rfl ⟨rfl, rfl, rfl, rfl, rfl⟩ rfl rfl rfl rfl rfl (by kernel_rfl) Try.func3 (by kernel_rfl)
    (of_decide_eq_true (by kernel_rfl)) (by unfold Func.isWrapper; first | (rw [if_pos (by decide +kernel)]; kernel_rfl) | (rw [if_neg (by decide +kernel)]; exact ⟨rfl, rfl⟩))
    (fun os started H enc _ => kindApplies_lifted os started H enc)
end Go.Proofs.Ytcdjdpoahngkjaa
