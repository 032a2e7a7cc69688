/- For every input the law PatternTypes returns true. Part 21 of 21. No condition. -/
import Derived.Test.YtencdekdgajgfaaGreatDoorPTt
set_option linter.unusedVariables false
set_option linter.unnecessarySimpa false
set_option linter.unusedSimpArgs false
set_option maxRecDepth 100000
set_option maxHeartbeats 1000000
namespace Go.Proofs.YtencdekdgajgfaaGreatDoor
open Go Go.Abs
theorem patternTypes_row:Rows.PatternTypesSaid:=
 OpenClaim.holds_of_wide 3 Tryz.f3 rfl rfl rfl rfl rfl rfl rfl ⟨rfl,rfl,rfl,rfl,rfl⟩ rfl rfl rfl rfl rfl (by kernel_rfl) Tryz.func3 patternTypes_closed
  (of_decide_eq_true (by kernel_rfl)) (by unfold Func.isWrapper;first|(rw[if_pos (by decide +kernel)];kernel_rfl)|(rw[if_neg (by decide +kernel)];exact⟨rfl,rfl⟩))
  (fun os started H enc _=>patternTypes_lifted os started H enc)
theorem patternTypes_said:Rows.PatternTypesCardSaid:=
 Claim7.holds_tied_plain_at .later [] [.data,.data,.data,.sentinel,.sentinel,.listed,.data] true (true, "361b0a8ed1a2c245488225255cdb83136aff443747e6d265f594981ef008961d") true
  patternTypes_row (fun _ h=>by cases h) cf1 (fun _ h=>by cases h) patternTypes_row_tie rfl ⟨rfl,rfl⟩ cf2 rfl
  (fun f fn hf hfn=>by
   obtain rfl:f=3:=zqa (cf3.symm.trans hf)|>.symm
   obtain rfl:fn=Tryz.f3:=(zqa (Tryz.func3.symm.trans hfn)).symm
   exact⟨cf4,fun j t ht=>by
    have ht':(#[24,31]:Array TypeId)[j]? =some t:=ht
    have hm:t∈[24,31]:=by simpa using Array.mem_of_getElem? ht'
    exact(show Tryz.prog.wantsStandIn t=false by simpa using zq8 cf5 t hm)⟩)
  cf6
end Go.Proofs.YtencdekdgajgfaaGreatDoor
