/- For every input the law ParsecoreLimits returns true. Part 22 of 22. No condition. -/
import Derived.Test.YtcbjbgiboimgaaaGreatDoorPMu
set_option linter.unusedVariables false
set_option linter.unnecessarySimpa false
set_option linter.unusedSimpArgs false
set_option maxRecDepth 100000
set_option maxHeartbeats 4000000
namespace Go.Proofs.YtcbjbgiboimgaaaGreatDoor
open Go Go.Abs
theorem parsecoreLimits_row:Rows.ParsecoreLimitsSaid:=
 OpenClaim.holds_of_wide 5 Tryz.f5 rfl rfl rfl rfl rfl rfl rfl ⟨rfl,rfl,rfl,rfl,rfl⟩ rfl rfl rfl rfl rfl (by kernel_rfl) Tryz.func5 parsecoreLimits_closed
  (of_decide_eq_true (by kernel_rfl)) (by unfold Func.isWrapper;first|(rw[if_pos (by decide +kernel)];kernel_rfl)|(rw[if_neg (by decide +kernel)];exact⟨rfl,rfl⟩))
  (fun os started H enc _=>parsecoreLimits_lifted os started H enc)
theorem parsecoreLimits_said:Rows.ParsecoreLimitsCardSaid:=
 Claim7.holds_tied_plain_at .later [] [.data,.data,.data,.sentinel,.sentinel,.listed,.data] true (true, "a1a1da11014aad187e2b6fdb28a95ddcc357525fa753d89abb281ead00064632") true
  parsecoreLimits_row (fun _ h=>by cases h) cf1 (fun _ h=>by cases h) parsecoreLimits_row_tie rfl ⟨rfl,rfl⟩ cf2 rfl
  (fun f fn hf hfn=>by
   obtain rfl:f=5:=zqa (cf3.symm.trans hf)|>.symm
   obtain rfl:fn=Tryz.f5:=(zqa (Tryz.func5.symm.trans hfn)).symm
   exact⟨cf4,fun j t ht=>by
    have ht':(#[5,53]:Array TypeId)[j]? =some t:=ht
    have hm:t∈[5,53]:=by simpa using Array.mem_of_getElem? ht'
    exact(show Tryz.prog.wantsStandIn t=false by simpa using zq8 cf5 t hm)⟩)
  cf6
end Go.Proofs.YtcbjbgiboimgaaaGreatDoor
