/- CanonSteps holds: for every input the law returns true. No condition. Part 16 of 19. No condition. -/
import Derived.Test.YtkdhppfdiagglaaGreatDoorCSo
import Derived.Test.YtkdhppfdiagglaaGreatDoorTie
import Derived.Test.YtkdhppfdiagglaaGreatDoorCards
import Derived.Lay
import Derived.LaidMore
import Derived.SevenTiedAt
set_option linter.unusedVariables false
set_option linter.unnecessarySimpa false
set_option linter.unusedSimpArgs false
set_option maxRecDepth 100000
set_option maxHeartbeats 4000000
namespace Go.Proofs.YtkdhppfdiagglaaGreatDoor
open Go Go.Abs
theorem canonSteps_pure(avs:List AV)(h:All2 (fun A a=>A a) [fun a=> ∃x:zMb,zMb.good x∧a=.agg x.c,fun a=> ∃x:zMb,zMb.good x∧a=.agg x.c] avs):Pure Tryz.prog 3 avs (.bool true):=by
 obtain⟨_,_,rfl,⟨x0,h0,rfl⟩,⟨x1,h1,rfl⟩⟩:=all2_2 h
 obtain⟨fuel,hf⟩:=zLC x0 x1 h0 h1
 have:=zI6 fuel x0 x1 true hf
 simpa using this
theorem canonSteps_lifted(os:Os)(started:os.Started)(H:Type)(enc:TypeId×Value->H):
 ReturnsInHanded {} Tryz.checked os 3 .any (fun w args=>(Rows.canonStepsSpec.pre enc Tryz.prog Tryz.f3 Rows.canonStepsRow.domain false w args∧laidMetH Tryz.prog Rows.canonStepsRow.laid w)∧sizedMet enc Tryz.prog Tryz.f3 (OpenSpec.ofChange Rows.canonStepsSpec) false w args) (Rows.canonStepsSpec.post enc Tryz.prog Tryz.f3 false true false false):=by
 refine zL7 (C:=Tryz.checked) (f:=Tryz.f3) (s:=Rows.canonStepsSpec) (conds:=Rows.canonStepsRow.domain) own laid Tryz.func3 (by kernel_rfl) rfl Tryz.underlying4 rfl
  (fun H ds hd=>by match ds,hd with|[_,_],_=>rfl)
  [fun a=> ∃x:zMb,zMb.good x∧a=.agg x.c,fun a=> ∃x:zMb,zMb.good x∧a=.agg x.c] ?_ ?_ (glob (Q:=fun w=>laidMetH Tryz.prog Rows.canonStepsRow.laid w) (fun W h=>by
   rw[MakeChecks.laidMetH_plain _ _ _ (by kernel_rfl)] at h
   exact⟨Lib.laidMet.reads h (zq3 (show Rows.canonStepsRow.laid[2]? =some _ by kernel_rfl)),Lib.laidMet.reads h (zq3 (show Rows.canonStepsRow.laid[6]? =some _ by kernel_rfl))⟩) (fun W h i hi=>by
   rw[MakeChecks.laidMetH_plain _ _ _ (by kernel_rfl)] at h
   simp only[ge,List.mem_cons,List.not_mem_nil,or_false] at hi
   rcases hi with rfl|rfl
   ·exact err_var (laid_at 4 h (show Rows.canonStepsRow.laid.drop 4=("strconv.ErrSyntax",Rows.laid_strconv_ErrSyntax)::Rows.canonStepsRow.laid.drop 5 by kernel_rfl)) (by kernel_rfl) (by kernel_rfl)
   ·exact err_var (laid_at 3 h (show Rows.canonStepsRow.laid.drop 3=("strconv.ErrRange",Rows.laid_strconv_ErrRange)::Rows.canonStepsRow.laid.drop 4 by kernel_rfl)) (by kernel_rfl) (by kernel_rfl))) canonSteps_pure started (fun _ _ h=>⟨h.1.1,h.2⟩) (fun _ _ _ hh h=>h.1.2.of_heap hh)
  (ChangeSpec.witness_shaped (enc:=enc) (C:=Tryz.checked) (os:=os) (X:=fun w _=>laidMetH Tryz.prog Rows.canonStepsRow.laid w) false (World.laidAll Tryz.prog os Rows.canonStepsRow.laid) #[.agg #[.slice none 0 0,.int .i64 0,.int .i64 0,.string ⟨#[]⟩,.int .i64 0,.int .i64 0,.string ⟨#[]⟩,.slice none 0 0,.slice none 0 0,.slice none 0 0,.slice none 0 0,.slice none 0 0,.slice none 0 0,.slice none 0 0,.slice none 0 0],.agg #[.slice none 0 0,.int .i64 0,.int .i64 0,.string ⟨#[]⟩,.int .i64 0,.int .i64 0,.string ⟨#[]⟩,.slice none 0 0,.slice none 0 0,.slice none 0 0,.slice none 0 0,.slice none 0 0,.slice none 0 0,.slice none 0 0,.slice none 0 0]] 8 (World.laidAll_os _ _ _)
   (World.shaped_of_ZipB (by kernel_rfl) (by kernel_rfl)) (by kernel_rfl) (by kernel_rfl) (by kernel_rfl)
   (by rw[MakeChecks.laidMetH_plain _ _ _ (by kernel_rfl)];exact laidMet_laidAll _ (by kernel_rfl) (by kernel_rfl)))
 ·exact⟨zKK Tryz.underlying33 op33,zKK Tryz.underlying33 op33,trivial⟩
 ·intro t ht
  have h:t∈[33,33]:=ht
  simp only[List.mem_cons,List.not_mem_nil,or_false] at h
  rcases h with rfl|rfl<;>exact⟨by kernel_rfl,of_decide_eq_true (by kernel_rfl)⟩
end Go.Proofs.YtkdhppfdiagglaaGreatDoor
