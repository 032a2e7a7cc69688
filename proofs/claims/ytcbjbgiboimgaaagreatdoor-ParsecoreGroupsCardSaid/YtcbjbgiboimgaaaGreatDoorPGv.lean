/- For every input the law ParsecoreGroups returns true. Part 22 of 22. No condition. -/
import Derived.Test.YtcbjbgiboimgaaaGreatDoorPGu
set_option linter.unusedVariables false
set_option linter.unnecessarySimpa false
set_option linter.unusedSimpArgs false
set_option maxRecDepth 100000
set_option maxHeartbeats 4000000
namespace Go.Proofs.YtcbjbgiboimgaaaGreatDoor
open Go Go.Abs
theorem parsecoreGroups_row:Rows.ParsecoreGroupsSaid:=
 OpenClaim.holds_of_wide 3 Tryz.f3 rfl rfl rfl rfl rfl rfl rfl ⟨rfl,rfl,rfl,rfl,rfl⟩ rfl rfl rfl rfl rfl (by kernel_rfl) Tryz.func3 parsecoreGroups_closed
  (of_decide_eq_true (by kernel_rfl)) (by unfold Func.isWrapper;first|(rw[if_pos (by decide +kernel)];kernel_rfl)|(rw[if_neg (by decide +kernel)];exact⟨rfl,rfl⟩))
  (fun os started H enc _=>parsecoreGroups_lifted os started H enc)
theorem parsecoreGroups_said:Rows.ParsecoreGroupsCardSaid:=
 Claim7.holds_tied_plain_at .later [] [.data,.data,.data,.sentinel,.sentinel,.listed,.data] true (true, "a1a1da11014aad187e2b6fdb28a95ddcc357525fa753d89abb281ead00064632") true
  parsecoreGroups_row (fun _ h=>by cases h) cf1 (fun _ h=>by cases h) parsecoreGroups_row_tie rfl ⟨rfl,rfl⟩ cf2 rfl
  (fun f fn hf hfn=>by
   obtain rfl:f=3:=zqa (cf3.symm.trans hf)|>.symm
   obtain rfl:fn=Tryz.f3:=(zqa (Tryz.func3.symm.trans hfn)).symm
   exact⟨cf4,fun j t ht=>by
    have ht':(#[5,5,9,9,9]:Array TypeId)[j]? =some t:=ht
    have hm:t∈[5,5,9,9,9]:=by simpa using Array.mem_of_getElem? ht'
    exact(show Tryz.prog.wantsStandIn t=false by simpa using zq8 cf5 t hm)⟩)
  cf6
end Go.Proofs.YtcbjbgiboimgaaaGreatDoor
