/- For every input the law VerifyDead returns true. Part 13 of 13. No condition. -/
import Derived.Test.YthbjlmoaceaeeaaVFl
set_option linter.unusedVariables false
set_option linter.unusedSimpArgs false
set_option maxRecDepth 100000
namespace Go.Proofs.Ythbjlmoaceaeeaa
open Go Go.Abs
theorem verifyDead_pure (avs : List AV) (h : All2 (fun A a => A a) [fun a => ∃ x : Api.Program, (fun _ => True) x ∧ a = .agg x.c, fun a => ∃ x, Rng .i64 x ∧ a = .int .i64 x, fun a => ∃ x : Api.Instr, (fun _ => True) x ∧ a = .agg x.c] avs) : Pure Try.prog 5 avs (.bool true) := by
    obtain ⟨_, _, _, rfl, ⟨x0, h0, rfl⟩, ⟨x1, h1, rfl⟩, ⟨x2, h2, rfl⟩⟩ := all2_3 h
    obtain ⟨fuel, hf⟩ := VerifyDead_true x0 x1 x2 h1
    have := law48_VerifyDead_ok fuel x0 x1 x2 true hf
    simpa using this
theorem verifyDead_lifted (os : Os) (started : os.Started) (H : Type) (enc : TypeId × Value → H) :
    ReturnsInHanded {} Try.checked os 5 .any (Rows.verifyDeadSpec.pre6 enc Try.prog Try.f5 Rows.verifyDeadRow.domain false) (Rows.verifyDeadSpec.post enc Try.prog Try.f5 false true false false) := by
  refine law_lifted (C := Try.checked) (f := Try.f5) (s := Rows.verifyDeadSpec) own laid Try.func5 (by kernel_rfl) rfl Try.underlying4 rfl
    (fun H ds hd => by match ds, hd with | [_, _, _], _ => rfl)
    [fun a => ∃ x : Api.Program, (fun _ => True) x ∧ a = .agg x.c, fun a => ∃ x, Rng .i64 x ∧ a = .int .i64 x, fun a => ∃ x : Api.Instr, (fun _ => True) x ∧ a = .agg x.c] ?_ ?_ glob verifyDead_pure started
    (ChangeSpec.witness6 (enc := enc) (C := Try.checked) false ⟨#[], #[.agg #[.slice none 0 0, .slice none 0 0, .int .i64 0], .int .i64 0, .agg #[.int .i64 0, .int .i64 0, .int .i64 0]], []⟩ 8 (by kernel_rfl) (by kernel_rfl) (by kernel_rfl) (by kernel_rfl))
  · exact ⟨opens_struct Try.underlying25 op25, opens_int Try.underlying3, opens_struct Try.underlying46 op46, trivial⟩
  · intro t ht
    have h : t ∈ [25, 3, 46] := ht
    simp only [List.mem_cons, List.not_mem_nil, or_false] at h
    rcases h with rfl | rfl | rfl <;> exact ⟨by kernel_rfl, of_decide_eq_true (by kernel_rfl)⟩
theorem verifyDead_said : Rows.VerifyDeadSaid :=
  OpenClaim.holds_of_wide 5 Try.f5 rfl rfl rfl rfl rfl rfl rfl ⟨rfl, rfl, rfl, rfl, rfl⟩ rfl rfl rfl rfl rfl (by kernel_rfl) Try.func5 (by kernel_rfl)
    (of_decide_eq_true (by kernel_rfl)) (by unfold Func.isWrapper; first | (rw [if_pos (by decide +kernel)]; kernel_rfl) | (rw [if_neg (by decide +kernel)]; exact ⟨rfl, rfl⟩))
    (fun os started H enc _ => verifyDead_lifted os started H enc)
end Go.Proofs.Ythbjlmoaceaeeaa
