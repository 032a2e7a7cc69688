/- For every input the law PatternBack returns true. Part 23 of 23. No condition. -/
import Derived.Test.YtbnahfdbjaohkaaGreatDoorPBv
set_option linter.unusedVariables false
set_option linter.unnecessarySimpa false
set_option linter.unusedSimpArgs false
set_option maxRecDepth 100000
set_option maxHeartbeats 4000000
namespace Go.Proofs.YtbnahfdbjaohkaaGreatDoor
open Go Go.Abs
theorem patternBack_row:Rows.PatternBackSaid:=
 OpenClaim.holds_of_wide 3 Tryz.f3 rfl rfl rfl rfl rfl rfl rfl ⟨rfl,rfl,rfl,rfl,rfl⟩ rfl rfl rfl rfl rfl (by kernel_rfl) Tryz.func3 patternBack_closed
  (of_decide_eq_true (by kernel_rfl)) (by unfold Func.isWrapper;first|(rw[if_pos (by decide +kernel)];kernel_rfl)|(rw[if_neg (by decide +kernel)];exact⟨rfl,rfl⟩))
  (fun os started H enc _=>patternBack_lifted os started H enc)
theorem patternBack_said:Rows.PatternBackCardSaid:=
 Claim7.holds_tied_plain_at .later [] [.data,.data,.data,.sentinel,.sentinel,.listed,.data] true (true, "de7421725644ab2fc1f94015f805800284353ab785277e57b824cd0b6ae4dc8b") true
  patternBack_row (fun _ h=>by cases h) cf1 (fun _ h=>by cases h) patternBack_row_tie rfl ⟨rfl,rfl⟩ cf2 rfl
  (fun f fn hf hfn=>by
   obtain rfl:f=3:=zqa (cf3.symm.trans hf)|>.symm
   obtain rfl:fn=Tryz.f3:=(zqa (Tryz.func3.symm.trans hfn)).symm
   exact⟨cf4,fun j t ht=>by
    have ht':(#[24]:Array TypeId)[j]? =some t:=ht
    have hm:t∈[24]:=by simpa using Array.mem_of_getElem? ht'
    exact(show Tryz.prog.wantsStandIn t=false by simpa using zq8 cf5 t hm)⟩)
  cf6
end Go.Proofs.YtbnahfdbjaohkaaGreatDoor
