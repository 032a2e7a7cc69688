/- For every input the law ParsecoreLimits returns true. Part 19 of 22. No condition. -/
import Derived.Test.YtcbjbgiboimgaaaGreatDoorPMr
import Derived.Test.YtcbjbgiboimgaaaGreatDoorTie
import Derived.Test.YtcbjbgiboimgaaaGreatDoorCards
import Derived.Lay
import Derived.LaidMore
import Derived.SevenTiedAt
set_option linter.unusedVariables false
set_option linter.unnecessarySimpa false
set_option linter.unusedSimpArgs false
set_option maxRecDepth 100000
set_option maxHeartbeats 4000000
namespace Go.Proofs.YtcbjbgiboimgaaaGreatDoor
open Go Go.Abs
theorem parsecoreLimits_pure(avs:List AV)(h:All2 (fun A a=>A a) [fun a=> ∃x:UInt8,True∧a=.int .u8 x.toNat,fun a=> ∃x,Rng .u16 x∧a=.int .u16 x] avs):Pure Tryz.prog 5 avs (.bool true):=by
 obtain⟨_,_,rfl,⟨x0,h0,rfl⟩,⟨x1,h1,rfl⟩⟩:=all2_2 h
 obtain⟨fuel,hf⟩:=zG2 x0 x1 h1
 have:=zF2 fuel x0 x1 true hf
 simpa using this
theorem parsecoreLimits_lifted(os:Os)(started:os.Started)(H:Type)(enc:TypeId×Value->H):
 ReturnsInHanded {} Tryz.checked os 5 .any (fun w args=>(Rows.parsecoreLimitsSpec.pre enc Tryz.prog Tryz.f5 Rows.parsecoreLimitsRow.domain false w args∧laidMetH Tryz.prog Rows.parsecoreLimitsRow.laid w)∧sizedMet enc Tryz.prog Tryz.f5 (OpenSpec.ofChange Rows.parsecoreLimitsSpec) false w args) (Rows.parsecoreLimitsSpec.post enc Tryz.prog Tryz.f5 false true false false):=by
 refine zKC (C:=Tryz.checked) (f:=Tryz.f5) (s:=Rows.parsecoreLimitsSpec) (conds:=Rows.parsecoreLimitsRow.domain) own laid Tryz.func5 (by kernel_rfl) rfl Tryz.underlying4 rfl
  (fun H ds hd=>by match ds,hd with|[_,_],_=>rfl)
  [fun a=> ∃x:UInt8,True∧a=.int .u8 x.toNat,fun a=> ∃x,Rng .u16 x∧a=.int .u16 x] ?_ ?_ (glob (Q:=fun w=>laidMetH Tryz.prog Rows.parsecoreLimitsRow.laid w) (fun W h=>by
   rw[MakeChecks.laidMetH_plain _ _ _ (by kernel_rfl)] at h
   exact⟨Lib.laidMet.reads h (zq3 (show Rows.parsecoreLimitsRow.laid[2]? =some _ by kernel_rfl)),Lib.laidMet.reads h (zq3 (show Rows.parsecoreLimitsRow.laid[6]? =some _ by kernel_rfl))⟩) (fun W h i hi=>by
   rw[MakeChecks.laidMetH_plain _ _ _ (by kernel_rfl)] at h
   simp only[ge,List.mem_cons,List.not_mem_nil,or_false] at hi
   rcases hi with rfl|rfl
   ·exact err_var (laid_at 4 h (show Rows.parsecoreLimitsRow.laid.drop 4=("strconv.ErrSyntax",Rows.laid_strconv_ErrSyntax)::Rows.parsecoreLimitsRow.laid.drop 5 by kernel_rfl)) (by kernel_rfl) (by kernel_rfl)
   ·exact err_var (laid_at 3 h (show Rows.parsecoreLimitsRow.laid.drop 3=("strconv.ErrRange",Rows.laid_strconv_ErrRange)::Rows.parsecoreLimitsRow.laid.drop 4 by kernel_rfl)) (by kernel_rfl) (by kernel_rfl))) parsecoreLimits_pure started (fun _ _ h=>⟨h.1.1,h.2⟩) (fun _ _ _ hh h=>h.1.2.of_heap hh)
  (ChangeSpec.witness_shaped (enc:=enc) (C:=Tryz.checked) (os:=os) (X:=fun w _=>laidMetH Tryz.prog Rows.parsecoreLimitsRow.laid w) false (World.laidAll Tryz.prog os Rows.parsecoreLimitsRow.laid) #[.int .u8 0,.int .u16 0] 8 (World.laidAll_os _ _ _)
   (World.shaped_of_ZipB (by kernel_rfl) (by kernel_rfl)) (by kernel_rfl) (by kernel_rfl) (by kernel_rfl)
   (by rw[MakeChecks.laidMetH_plain _ _ _ (by kernel_rfl)];exact laidMet_laidAll _ (by kernel_rfl) (by kernel_rfl)))
 ·exact⟨opens_byte Tryz.underlying5,opens_int Tryz.underlying53,trivial⟩
 ·intro t ht
  have h:t∈[5,53]:=ht
  simp only[List.mem_cons,List.not_mem_nil,or_false] at h
  rcases h with rfl|rfl<;>exact⟨by kernel_rfl,of_decide_eq_true (by kernel_rfl)⟩
end Go.Proofs.YtcbjbgiboimgaaaGreatDoor
