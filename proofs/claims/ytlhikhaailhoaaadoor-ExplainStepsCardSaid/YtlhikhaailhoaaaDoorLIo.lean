/- For every input the law ExplainSteps returns true. Part 15 of 15. No condition. -/
import Derived.Test.YtlhikhaailhoaaaDoorLIn
import Derived.Test.YtlhikhaailhoaaaDoorTie
import Derived.Test.YtlhikhaailhoaaaDoorCards
import Derived.Lay
import Derived.LaidMore
import Derived.SevenTiedAt
import Derived.Stop.Joined
set_option linter.unusedVariables false
set_option linter.unusedSimpArgs false
set_option maxRecDepth 100000
namespace Go.Proofs.YtlhikhaailhoaaaDoor
open Go Go.Abs
theorem explainSteps_pure (avs : List AV) (h : All2 (fun A a => A a) [fun a => ∃ l : List Api.Step, (l.length * 64 ≤ 140737488351232 ∧ ∀ x ∈ l, (fun _ => True) x) ∧ a = .sl (l.map Api.Step.c)] avs) : Pure Tryd.prog 5 avs (.bool true) := by
    obtain ⟨_, rfl, ⟨x0, h0, rfl⟩⟩ := all2_1 h
    obtain ⟨fuel, hf⟩ := ExplainSteps_true x0 h0
    have := law55_ExplainSteps_ok fuel x0 true hf
    simpa using this
theorem explainSteps_lifted (os : Os) (started : os.Started) (H : Type) (enc : TypeId × Value → H) :
    ReturnsInHanded {} Tryd.checked os 5 .any (fun w args => (Rows.explainStepsSpec.pre enc Tryd.prog Tryd.f5 Rows.explainStepsRow.domain false w args ∧ laidMetH Tryd.prog Rows.explainStepsRow.laid w) ∧ sizedMet enc Tryd.prog Tryd.f5 (OpenSpec.ofChange Rows.explainStepsSpec) false w args) (Rows.explainStepsSpec.post enc Tryd.prog Tryd.f5 false true false false) := by
  refine law_lifted_pre (C := Tryd.checked) (f := Tryd.f5) (s := Rows.explainStepsSpec) (conds := Rows.explainStepsRow.domain) own laid Tryd.func5 (by kernel_rfl) rfl Tryd.underlying4 rfl
    (fun H ds hd => by match ds, hd with | [_], _ => rfl)
    [fun a => ∃ l : List Api.Step, (l.length * 64 ≤ 140737488351232 ∧ ∀ x ∈ l, (fun _ => True) x) ∧ a = .sl (l.map Api.Step.c)] ?_ ?_ glob explainSteps_pure started (fun _ _ h => ⟨h.1.1, h.2⟩)
    (ChangeSpec.witness_shaped (enc := enc) (C := Tryd.checked) (os := os) (X := fun w _ => laidMetH Tryd.prog Rows.explainStepsRow.laid w) false (World.laidAll Tryd.prog os Rows.explainStepsRow.laid) #[.slice none 0 0] 8 (World.laidAll_os _ _ _)
      (World.shaped_of_ZipB (by kernel_rfl) (by kernel_rfl)) (by kernel_rfl) (by kernel_rfl) (by kernel_rfl)
      (by rw [MakeChecks.laidMetH_plain _ _ _ (by kernel_rfl)]; exact laidMet_laidAll _ (by kernel_rfl) (by kernel_rfl)))
  · exact ⟨opens_slice Tryd.underlying40 (m := 6) (b := 64) (by kernel_rfl) (by kernel_rfl) (by decide) (fun a => by simp) op27, trivial⟩
  · intro t ht
    have h : t ∈ [40] := ht
    simp only [List.mem_cons, List.not_mem_nil, or_false] at h
    rcases h with rfl <;> exact ⟨by kernel_rfl, of_decide_eq_true (by kernel_rfl)⟩
theorem explainSteps_row : Rows.ExplainStepsSaid :=
  OpenClaim.holds_of_wide 5 Tryd.f5 rfl rfl rfl rfl rfl rfl rfl ⟨rfl, rfl, rfl, rfl, rfl⟩ rfl rfl rfl rfl rfl (by kernel_rfl) Tryd.func5 (by kernel_rfl)
    (of_decide_eq_true (by kernel_rfl)) (by unfold Func.isWrapper; first | (rw [if_pos (by decide +kernel)]; kernel_rfl) | (rw [if_neg (by decide +kernel)]; exact ⟨rfl, rfl⟩))
    (fun os started H enc _ => explainSteps_lifted os started H enc)
theorem explainSteps_said : Rows.ExplainStepsCardSaid :=
  Claim7.holds_tied_plain_at .later [] [.data, .pinned] true (true, "b485c705184a60cdb07d968f0bf1592958ed27264a33c3a613b1e8207281a220") false
    explainSteps_row (fun _ h => by cases h) (by kernel_rfl) (fun _ h => by cases h) explainSteps_row_tie rfl ⟨rfl, rfl⟩ (by kernel_rfl) rfl
    (fun f fn hf hfn => by
      obtain rfl : f = 5 := Option.some.inj ((show Tryd.prog.funcNamed "pilaster/pilasterlaw55.ExplainSteps" = some 5 by kernel_rfl).symm.trans hf) |>.symm
      obtain rfl : fn = Tryd.f5 := (Option.some.inj (Tryd.func5.symm.trans hfn)).symm
      exact ⟨by kernel_rfl, fun j t ht => by
        have ht' : (#[40] : Array TypeId)[j]? = some t := ht
        have hm : t ∈ [40] := by simpa using Array.mem_of_getElem? ht'
        have hall : ([40].all fun u => !Tryd.prog.wantsStandIn u) = true := by kernel_rfl
        exact (show Tryd.prog.wantsStandIn t = false by simpa using List.all_eq_true.1 hall t hm)⟩)
    (by kernel_rfl)
end Go.Proofs.YtlhikhaailhoaaaDoor
