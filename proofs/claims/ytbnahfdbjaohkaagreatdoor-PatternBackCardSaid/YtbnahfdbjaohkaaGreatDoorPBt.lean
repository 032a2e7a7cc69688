/- For every input the law PatternBack returns true. Part 20 of 23. No condition. -/
import Derived.Test.YtbnahfdbjaohkaaGreatDoorPBs
import Derived.Test.YtbnahfdbjaohkaaGreatDoorTie
import Derived.Test.YtbnahfdbjaohkaaGreatDoorCards
import Derived.Lay
import Derived.LaidMore
import Derived.SevenTiedAt
set_option linter.unusedVariables false
set_option linter.unnecessarySimpa false
set_option linter.unusedSimpArgs false
set_option maxRecDepth 100000
set_option maxHeartbeats 4000000
namespace Go.Proofs.YtbnahfdbjaohkaaGreatDoor
open Go Go.Abs
theorem patternBack_pure(avs:List AV)(h:All2 (fun A a=>A a) [fun a=> ∃x:zJx,(fun _=>True) x∧a=.agg x.c] avs):Pure Tryz.prog 3 avs (.bool true):=by
 obtain⟨_,rfl,⟨x0,h0,rfl⟩⟩:=all2_1 h
 obtain⟨fuel,hf⟩:=zIU x0
 have:=zGJ fuel x0 true hf
 simpa using this
theorem patternBack_lifted(os:Os)(started:os.Started)(H:Type)(enc:TypeId×Value->H):
 ReturnsInHanded {} Tryz.checked os 3 .any (fun w args=>(Rows.patternBackSpec.pre enc Tryz.prog Tryz.f3 Rows.patternBackRow.domain false w args∧laidMetH Tryz.prog Rows.patternBackRow.laid w)∧sizedMet enc Tryz.prog Tryz.f3 (OpenSpec.ofChange Rows.patternBackSpec) false w args) (Rows.patternBackSpec.post enc Tryz.prog Tryz.f3 false true false false):=by
 refine zJa (C:=Tryz.checked) (f:=Tryz.f3) (s:=Rows.patternBackSpec) (conds:=Rows.patternBackRow.domain) own laid Tryz.func3 (by kernel_rfl) rfl Tryz.underlying4 rfl
  (fun H ds hd=>by match ds,hd with|[_],_=>rfl)
  [fun a=> ∃x:zJx,(fun _=>True) x∧a=.agg x.c] ?_ ?_ (glob (Q:=fun w=>laidMetH Tryz.prog Rows.patternBackRow.laid w) (fun W h=>by
   rw[MakeChecks.laidMetH_plain _ _ _ (by kernel_rfl)] at h
   exact⟨Lib.laidMet.reads h (zq3 (show Rows.patternBackRow.laid[2]? =some _ by kernel_rfl)),Lib.laidMet.reads h (zq3 (show Rows.patternBackRow.laid[6]? =some _ by kernel_rfl))⟩) (fun W h i hi=>by
   rw[MakeChecks.laidMetH_plain _ _ _ (by kernel_rfl)] at h
   simp only[ge,List.mem_cons,List.not_mem_nil,or_false] at hi
   rcases hi with rfl|rfl
   ·exact err_var (laid_at 4 h (show Rows.patternBackRow.laid.drop 4=("strconv.ErrSyntax",Rows.laid_strconv_ErrSyntax)::Rows.patternBackRow.laid.drop 5 by kernel_rfl)) (by kernel_rfl) (by kernel_rfl)
   ·exact err_var (laid_at 3 h (show Rows.patternBackRow.laid.drop 3=("strconv.ErrRange",Rows.laid_strconv_ErrRange)::Rows.patternBackRow.laid.drop 4 by kernel_rfl)) (by kernel_rfl) (by kernel_rfl))) patternBack_pure started (fun _ _ h=>⟨h.1.1,h.2⟩) (fun _ _ _ hh h=>h.1.2.of_heap hh)
  (ChangeSpec.witness_shaped (enc:=enc) (C:=Tryz.checked) (os:=os) (X:=fun w _=>laidMetH Tryz.prog Rows.patternBackRow.laid w) false (World.laidAll Tryz.prog os Rows.patternBackRow.laid) #[.agg #[.int .i64 0,.int .i64 0,.string ⟨#[]⟩,.slice none 0 0]] 8 (World.laidAll_os _ _ _)
   (World.shaped_of_ZipB (by kernel_rfl) (by kernel_rfl)) (by kernel_rfl) (by kernel_rfl) (by kernel_rfl)
   (by rw[MakeChecks.laidMetH_plain _ _ _ (by kernel_rfl)];exact laidMet_laidAll _ (by kernel_rfl) (by kernel_rfl)))
 ·exact⟨opens_struct Tryz.underlying24 op24,trivial⟩
 ·intro t ht
  have h:t∈[24]:=ht
  simp only[List.mem_cons,List.not_mem_nil,or_false] at h
  rcases h with rfl<;>exact⟨by kernel_rfl,of_decide_eq_true (by kernel_rfl)⟩
end Go.Proofs.YtbnahfdbjaohkaaGreatDoor
