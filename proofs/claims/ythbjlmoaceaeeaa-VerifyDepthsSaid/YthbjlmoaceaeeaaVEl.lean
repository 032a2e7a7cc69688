/- For every input the law VerifyDepths returns true. Part 12 of 12. No condition. -/
import Derived.Test.YthbjlmoaceaeeaaVEk
set_option linter.unusedVariables false
set_option linter.unusedSimpArgs false
set_option maxRecDepth 100000
namespace Go.Proofs.Ythbjlmoaceaeeaa
open Go Go.Abs
theorem verifyDepths_pure (avs : List AV) (h : All2 (fun A a => A a) [fun a => ∃ x : Api.Program, (fun _ => True) x ∧ a = .agg x.c, fun a => ∃ x, Rng .i64 x ∧ a = .int .i64 x, fun a => ∃ x : UInt8, True ∧ a = .int .u8 x.toNat] avs) : Pure Try.prog 4 avs (.bool true) := by
    obtain ⟨_, _, _, rfl, ⟨x0, h0, rfl⟩, ⟨x1, h1, rfl⟩, ⟨x2, h2, rfl⟩⟩ := all2_3 h
    obtain ⟨fuel, hf⟩ := VerifyDepths_true x0 x1 x2 h1
    have := law48_VerifyDepths_ok fuel x0 x1 x2 true hf
    simpa using this
theorem verifyDepths_lifted (os : Os) (started : os.Started) (H : Type) (enc : TypeId × Value → H) :
    ReturnsInHanded {} Try.checked os 4 .any (Rows.verifyDepthsSpec.pre6 enc Try.prog Try.f4 Rows.verifyDepthsRow.domain false) (Rows.verifyDepthsSpec.post enc Try.prog Try.f4 false true false false) := by
  refine law_lifted (C := Try.checked) (f := Try.f4) (s := Rows.verifyDepthsSpec) own laid Try.func4 (by kernel_rfl) rfl Try.underlying4 rfl
    (fun H ds hd => by match ds, hd with | [_, _, _], _ => rfl)
    [fun a => ∃ x : Api.Program, (fun _ => True) x ∧ a = .agg x.c, fun a => ∃ x, Rng .i64 x ∧ a = .int .i64 x, fun a => ∃ x : UInt8, True ∧ a = .int .u8 x.toNat] ?_ ?_ glob verifyDepths_pure started
    (ChangeSpec.witness6 (enc := enc) (C := Try.checked) false ⟨#[], #[.agg #[.slice none 0 0, .slice none 0 0, .int .i64 0], .int .i64 0, .int .u8 0], []⟩ 8 (by kernel_rfl) (by kernel_rfl) (by kernel_rfl) (by kernel_rfl))
  · exact ⟨opens_struct Try.underlying25 op25, opens_int Try.underlying3, opens_byte Try.underlying5, trivial⟩
  · intro t ht
    have h : t ∈ [25, 3, 5] := ht
    simp only [List.mem_cons, List.not_mem_nil, or_false] at h
    rcases h with rfl | rfl | rfl <;> exact ⟨by kernel_rfl, of_decide_eq_true (by kernel_rfl)⟩
theorem verifyDepths_said : Rows.VerifyDepthsSaid :=
  OpenClaim.holds_of_wide 4 Try.f4 rfl rfl rfl rfl rfl rfl rfl ⟨rfl, rfl, rfl, rfl, rfl⟩ rfl rfl rfl rfl rfl (by kernel_rfl) Try.func4 (by kernel_rfl)
    (of_decide_eq_true (by kernel_rfl)) (by unfold Func.isWrapper; first | (rw [if_pos (by decide +kernel)]; kernel_rfl) | (rw [if_neg (by decide +kernel)]; exact ⟨rfl, rfl⟩))
    (fun os started H enc _ => verifyDepths_lifted os started H enc)
end Go.Proofs.Ythbjlmoaceaeeaa
