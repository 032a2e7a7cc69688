/- For every input the law ParsecoreGroups returns true. Part 19 of 22. No condition. -/
import Derived.Test.YtcbjbgiboimgaaaGreatDoorPGr
import Derived.Test.YtcbjbgiboimgaaaGreatDoorTie
import Derived.Test.YtcbjbgiboimgaaaGreatDoorCards
import Derived.Lay
import Derived.LaidMore
import Derived.SevenTiedAt
set_option linter.unusedVariables false
set_option linter.unnecessarySimpa false
set_option linter.unusedSimpArgs false
set_option maxRecDepth 100000
set_option maxHeartbeats 4000000
namespace Go.Proofs.YtcbjbgiboimgaaaGreatDoor
open Go Go.Abs
theorem parsecoreGroups_pure(avs:List AV)(h:All2 (fun A a=>A a) [fun a=> ∃x:UInt8,True∧a=.int .u8 x.toNat,fun a=> ∃x:UInt8,True∧a=.int .u8 x.toNat,fun a=> ∃x:List UInt8,x.length<=140737488351232∧a=.str x,fun a=> ∃x:List UInt8,x.length<=140737488351232∧a=.str x,fun a=> ∃x:List UInt8,x.length<=140737488351232∧a=.str x] avs):Pure Tryz.prog 3 avs (.bool true):=by
 obtain⟨_,_,_,_,_,rfl,⟨x0,h0,rfl⟩,⟨x1,h1,rfl⟩,⟨x2,h2,rfl⟩,⟨x3,h3,rfl⟩,⟨x4,h4,rfl⟩⟩:=all2_5 h
 obtain⟨fuel,hf⟩:=zG9 x0 x1 x2 x3 x4 h2 h3 h4
 have:=zF3 fuel x0 x1 x2 x3 x4 true hf
 simpa using this
theorem parsecoreGroups_lifted(os:Os)(started:os.Started)(H:Type)(enc:TypeId×Value->H):
 ReturnsInHanded {} Tryz.checked os 3 .any (fun w args=>(Rows.parsecoreGroupsSpec.pre enc Tryz.prog Tryz.f3 Rows.parsecoreGroupsRow.domain false w args∧laidMetH Tryz.prog Rows.parsecoreGroupsRow.laid w)∧sizedMet enc Tryz.prog Tryz.f3 (OpenSpec.ofChange Rows.parsecoreGroupsSpec) false w args) (Rows.parsecoreGroupsSpec.post enc Tryz.prog Tryz.f3 false true false false):=by
 refine zKT (C:=Tryz.checked) (f:=Tryz.f3) (s:=Rows.parsecoreGroupsSpec) (conds:=Rows.parsecoreGroupsRow.domain) own laid Tryz.func3 (by kernel_rfl) rfl Tryz.underlying4 rfl
  (fun H ds hd=>by match ds,hd with|[_,_,_,_,_],_=>rfl)
  [fun a=> ∃x:UInt8,True∧a=.int .u8 x.toNat,fun a=> ∃x:UInt8,True∧a=.int .u8 x.toNat,fun a=> ∃x:List UInt8,x.length<=140737488351232∧a=.str x,fun a=> ∃x:List UInt8,x.length<=140737488351232∧a=.str x,fun a=> ∃x:List UInt8,x.length<=140737488351232∧a=.str x] ?_ ?_ (glob (Q:=fun w=>laidMetH Tryz.prog Rows.parsecoreGroupsRow.laid w) (fun W h=>by
   rw[MakeChecks.laidMetH_plain _ _ _ (by kernel_rfl)] at h
   exact⟨Lib.laidMet.reads h (zq3 (show Rows.parsecoreGroupsRow.laid[2]? =some _ by kernel_rfl)),Lib.laidMet.reads h (zq3 (show Rows.parsecoreGroupsRow.laid[6]? =some _ by kernel_rfl))⟩) (fun W h i hi=>by
   rw[MakeChecks.laidMetH_plain _ _ _ (by kernel_rfl)] at h
   simp only[ge,List.mem_cons,List.not_mem_nil,or_false] at hi
   rcases hi with rfl|rfl
   ·exact err_var (laid_at 4 h (show Rows.parsecoreGroupsRow.laid.drop 4=("strconv.ErrSyntax",Rows.laid_strconv_ErrSyntax)::Rows.parsecoreGroupsRow.laid.drop 5 by kernel_rfl)) (by kernel_rfl) (by kernel_rfl)
   ·exact err_var (laid_at 3 h (show Rows.parsecoreGroupsRow.laid.drop 3=("strconv.ErrRange",Rows.laid_strconv_ErrRange)::Rows.parsecoreGroupsRow.laid.drop 4 by kernel_rfl)) (by kernel_rfl) (by kernel_rfl))) parsecoreGroups_pure started (fun _ _ h=>⟨h.1.1,h.2⟩) (fun _ _ _ hh h=>h.1.2.of_heap hh)
  (ChangeSpec.witness_shaped (enc:=enc) (C:=Tryz.checked) (os:=os) (X:=fun w _=>laidMetH Tryz.prog Rows.parsecoreGroupsRow.laid w) false (World.laidAll Tryz.prog os Rows.parsecoreGroupsRow.laid) #[.int .u8 0,.int .u8 0,.string ⟨#[]⟩,.string ⟨#[]⟩,.string ⟨#[]⟩] 8 (World.laidAll_os _ _ _)
   (World.shaped_of_ZipB (by kernel_rfl) (by kernel_rfl)) (by kernel_rfl) (by kernel_rfl) (by kernel_rfl)
   (by rw[MakeChecks.laidMetH_plain _ _ _ (by kernel_rfl)];exact laidMet_laidAll _ (by kernel_rfl) (by kernel_rfl)))
 ·exact⟨opens_byte Tryz.underlying5,opens_byte Tryz.underlying5,zKM Tryz.underlying9,zKM Tryz.underlying9,zKM Tryz.underlying9,trivial⟩
 ·intro t ht
  have h:t∈[5,5,9,9,9]:=ht
  simp only[List.mem_cons,List.not_mem_nil,or_false] at h
  rcases h with rfl|rfl|rfl|rfl|rfl<;>exact⟨by kernel_rfl,of_decide_eq_true (by kernel_rfl)⟩
end Go.Proofs.YtcbjbgiboimgaaaGreatDoor
