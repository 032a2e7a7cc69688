/- PatternForms: for every input the law returns true. Part 18 of 18. No condition. -/
import Derived.Test.YtipodehgjknelaaGreatDoorPFq
set_option linter.unusedVariables false
set_option linter.unnecessarySimpa false
set_option linter.unusedSimpArgs false
set_option maxRecDepth 100000
set_option maxHeartbeats 1000000
namespace Go.Proofs.YtipodehgjknelaaGreatDoor
open Go Go.Abs
theorem patternForms_row : Rows.PatternFormsSaid :=
 OpenClaim.holds_of_wide 6 Tryz.f6 rfl rfl rfl rfl rfl rfl rfl ⟨rfl, rfl, rfl, rfl, rfl⟩ rfl rfl rfl rfl rfl (by kernel_rfl) Tryz.func6 patternForms_closed
  (of_decide_eq_true (by kernel_rfl)) (by unfold Func.isWrapper; first | (rw [if_pos (by decide +kernel)]; kernel_rfl) | (rw [if_neg (by decide +kernel)]; exact ⟨rfl, rfl⟩))
  (fun os started H enc _ => patternForms_lifted os started H enc)
theorem patternForms_said : Rows.PatternFormsCardSaid :=
 Claim7.holds_tied_plain_at .later [] [.data, .data, .data, .sentinel, .sentinel, .listed, .data] true (true, "b668642a0580b1f8c4ce3696fe52ece14faba54d1795800152585148c8a1b767") true
  patternForms_row (fun _ h => by cases h) cf1 (fun _ h => by cases h) patternForms_row_tie rfl ⟨rfl, rfl⟩ cf2 rfl
  (fun f fn hf hfn => by
   obtain rfl : f = 6 := Option.some.inj (cf3.symm.trans hf) |>.symm
   obtain rfl : fn = Tryz.f6 := (Option.some.inj (Tryz.func6.symm.trans hfn)).symm
   exact ⟨cf4, fun j t ht => by
    have ht' : (#[42, 42] : Array TypeId)[j]? = some t := ht
    have hm : t ∈ [42, 42] := by simpa using Array.mem_of_getElem? ht'
    exact (show Tryz.prog.wantsStandIn t = false by simpa using List.all_eq_true.1 cf5 t hm)⟩)
  cf6
end Go.Proofs.YtipodehgjknelaaGreatDoor
