/- CanonSteps holds: for every input the law returns true. No condition. Part 19 of 19. No condition. -/
import Derived.Test.YtkdhppfdiagglaaGreatDoorCSr
set_option linter.unusedVariables false
set_option linter.unnecessarySimpa false
set_option linter.unusedSimpArgs false
set_option maxRecDepth 100000
set_option maxHeartbeats 4000000
namespace Go.Proofs.YtkdhppfdiagglaaGreatDoor
open Go Go.Abs
theorem canonSteps_row:Rows.CanonStepsSaid:=
 OpenClaim.holds_of_wide 3 Tryz.f3 rfl rfl rfl rfl rfl rfl rfl ⟨rfl,rfl,rfl,rfl,rfl⟩ rfl rfl rfl rfl rfl (by kernel_rfl) Tryz.func3 canonSteps_closed
  (of_decide_eq_true (by kernel_rfl)) (by unfold Func.isWrapper;first|(rw[if_pos (by decide +kernel)];kernel_rfl)|(rw[if_neg (by decide +kernel)];exact⟨rfl,rfl⟩))
  (fun os started H enc _=>canonSteps_lifted os started H enc)
theorem canonSteps_said:Rows.CanonStepsCardSaid:=
 Claim7.holds_tied_plain_at .later [] [.data,.data,.data,.sentinel,.sentinel,.listed,.data] true (true, "b983b4427d8b5f7c5388d4c6912e5e4cadf6911e3e01daa7143a7ba558bc3fd2") true
  canonSteps_row (fun _ h=>by cases h) cf1 (fun _ h=>by cases h) canonSteps_row_tie rfl ⟨rfl,rfl⟩ cf2 rfl
  (fun f fn hf hfn=>by
   obtain rfl:f=3:=zqa (cf3.symm.trans hf)|>.symm
   obtain rfl:fn=Tryz.f3:=(zqa (Tryz.func3.symm.trans hfn)).symm
   exact⟨cf4,fun j t ht=>by
    have ht':(#[33,33]:Array TypeId)[j]? =some t:=ht
    have hm:t∈[33,33]:=by simpa using Array.mem_of_getElem? ht'
    exact(show Tryz.prog.wantsStandIn t=false by simpa using zq8 cf5 t hm)⟩)
  cf6
end Go.Proofs.YtkdhppfdiagglaaGreatDoor
