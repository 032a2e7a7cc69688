/- For every input the law KindLimits returns true. Part 8 of 8. No condition. -/
import Derived.Test.YtcdjdpoahngkjaaKCg
set_option linter.unusedVariables false
set_option linter.unusedSimpArgs false
set_option maxRecDepth 100000
namespace Go.Proofs.Ytcdjdpoahngkjaa
open Go Go.Abs
theorem kindLimits_pure (avs : List AV) (h : All2 (fun A a => A a) [fun a => ∃ x, Rng .u16 x ∧ a = .int .u16 x, fun a => ∃ x : Bool, True ∧ a = .bool x] avs) : Pure Try.prog 5 avs (.bool true) := by
  match avs, h with
  | [_, _], h =>
    obtain ⟨⟨x0, h0, rfl⟩, ⟨x1, h1, rfl⟩, _⟩ := h
    obtain ⟨fuel, hf⟩ := KindLimits_true x0 x1 h0
    have := law08_KindLimits_ok fuel x0 x1 true hf
    simpa using this
theorem kindLimits_lifted (os : Os) (started : os.Started) (H : Type) (enc : TypeId × Value → H) :
    ReturnsInHanded {} Try.checked os 5 .any (Rows.kindLimitsSpec.pre6 enc Try.prog Try.f5 Rows.kindLimitsRow.domain false) (Rows.kindLimitsSpec.post enc Try.prog Try.f5 false true false false) := by
  refine law_lifted (C := Try.checked) (f := Try.f5) (s := Rows.kindLimitsSpec) own laid Try.func5 (by kernel_rfl) rfl Try.underlying4 rfl
    (fun H ds hd => by match ds, hd with | [_, _], _ => rfl)
    [fun a => ∃ x, Rng .u16 x ∧ a = .int .u16 x, fun a => ∃ x : Bool, True ∧ a = .bool x] ?_ ?_ kindLimits_pure started
    (ChangeSpec.witness6 (enc := enc) (C := Try.checked) false ⟨#[], #[.int .u16 0, .bool false], []⟩ 8 (by kernel_rfl) (by kernel_rfl) (by kernel_rfl) (by kernel_rfl))
  · exact ⟨opens_int Try.underlying32, opens_bool Try.underlying4, trivial⟩
  · intro t ht
    have h : t ∈ [32, 4] := ht
    simp only [List.mem_cons, List.not_mem_nil, or_false] at h
    rcases h with rfl | rfl <;> exact ⟨by kernel_rfl, of_decide_eq_true (by kernel_rfl)⟩
theorem kindLimits_said : Rows.KindLimitsSaid :=
  OpenClaim.holds_of_wide 5 Try.f5 rfl rfl rfl rfl rfl rfl rfl ⟨rfl, rfl, rfl, rfl, rfl⟩ rfl rfl rfl rfl rfl (by kernel_rfl) Try.func5 (by kernel_rfl)
    (of_decide_eq_true (by kernel_rfl)) (by unfold Func.isWrapper; first | (rw [if_pos (by decide +kernel)]; kernel_rfl) | (rw [if_neg (by decide +kernel)]; exact ⟨rfl, rfl⟩))
    (fun os started H enc _ => kindLimits_lifted os started H enc)
end Go.Proofs.Ytcdjdpoahngkjaa
