/- For every input the law PatternWider returns true. Part 19 of 22. No condition. -/
import Derived.Test.YtencdekdgajgfaaGreatDoorPXr
import Derived.Test.YtencdekdgajgfaaGreatDoorTie
import Derived.Test.YtencdekdgajgfaaGreatDoorCards
import Derived.Lay
import Derived.LaidMore
import Derived.SevenTiedAt
set_option linter.unusedVariables false
set_option linter.unnecessarySimpa false
set_option linter.unusedSimpArgs false
set_option maxRecDepth 100000
set_option maxHeartbeats 1000000
namespace Go.Proofs.YtencdekdgajgfaaGreatDoor
open Go Go.Abs
theorem patternWider_pure(avs:List AV)(h:All2 (fun A a=>A a) [fun a=> ∃x:zLc,(fun _=>True) x∧a=.agg x.c,fun a=> ∃l:List UInt8,(l.length*1<=140737488351232∧∀x∈l,(fun _=>True) x)∧a=.sl (l.map cU),fun a=> ∃x:zLd,(fun _=>True) x∧a=.agg x.c,fun a=> ∃x:zLZ,(fun _=>True) x∧a=.agg x.c,fun a=> ∃l:List zLc,(l.length*56<=140737488351232∧∀x∈l,(fun _=>True) x)∧a=.sl (l.map zLc.c)] avs):Pure Tryz.prog 4 avs (.bool true):=by
 obtain⟨_,_,_,_,_,rfl,⟨x0,h0,rfl⟩,⟨x1,h1,rfl⟩,⟨x2,h2,rfl⟩,⟨x3,h3,rfl⟩,⟨x4,h4,rfl⟩⟩:=all2_5 h
 obtain⟨fuel,hf⟩:=zIz x0 x1 x2 x3 x4 h1 h4
 have:=zHU fuel x0 x1 x2 x3 x4 true hf
 simpa using this
theorem patternWider_lifted(os:Os)(started:os.Started)(H:Type)(enc:TypeId×Value->H):
 ReturnsInHanded {} Tryz.checked os 4 .any (fun w args=>(Rows.patternWiderSpec.pre enc Tryz.prog Tryz.f4 Rows.patternWiderRow.domain false w args∧laidMetH Tryz.prog Rows.patternWiderRow.laid w)∧sizedMet enc Tryz.prog Tryz.f4 (OpenSpec.ofChange Rows.patternWiderSpec) false w args) (Rows.patternWiderSpec.post enc Tryz.prog Tryz.f4 false true false false):=by
 refine zLB (C:=Tryz.checked) (f:=Tryz.f4) (s:=Rows.patternWiderSpec) (conds:=Rows.patternWiderRow.domain) own laid Tryz.func4 (by kernel_rfl) rfl Tryz.underlying4 rfl
  (fun H ds hd=>by match ds,hd with|[_,_,_,_,_],_=>rfl)
  [fun a=> ∃x:zLc,(fun _=>True) x∧a=.agg x.c,fun a=> ∃l:List UInt8,(l.length*1<=140737488351232∧∀x∈l,(fun _=>True) x)∧a=.sl (l.map cU),fun a=> ∃x:zLd,(fun _=>True) x∧a=.agg x.c,fun a=> ∃x:zLZ,(fun _=>True) x∧a=.agg x.c,fun a=> ∃l:List zLc,(l.length*56<=140737488351232∧∀x∈l,(fun _=>True) x)∧a=.sl (l.map zLc.c)] ?_ ?_ (glob (Q:=fun w=>laidMetH Tryz.prog Rows.patternWiderRow.laid w) (fun W h=>by
   rw[MakeChecks.laidMetH_plain _ _ _ (by kernel_rfl)] at h
   exact⟨Lib.laidMet.reads h (zq3 (show Rows.patternWiderRow.laid[2]? =some _ by kernel_rfl)),Lib.laidMet.reads h (zq3 (show Rows.patternWiderRow.laid[6]? =some _ by kernel_rfl))⟩) (fun W h i hi=>by
   rw[MakeChecks.laidMetH_plain _ _ _ (by kernel_rfl)] at h
   simp only[ge,List.mem_cons,List.not_mem_nil,or_false] at hi
   rcases hi with rfl|rfl
   ·exact err_var (laid_at 4 h (show Rows.patternWiderRow.laid.drop 4=("strconv.ErrSyntax",Rows.laid_strconv_ErrSyntax)::Rows.patternWiderRow.laid.drop 5 by kernel_rfl)) (by kernel_rfl) (by kernel_rfl)
   ·exact err_var (laid_at 3 h (show Rows.patternWiderRow.laid.drop 3=("strconv.ErrRange",Rows.laid_strconv_ErrRange)::Rows.patternWiderRow.laid.drop 4 by kernel_rfl)) (by kernel_rfl) (by kernel_rfl))) patternWider_pure started (fun _ _ h=>⟨h.1.1,h.2⟩) (fun _ _ _ hh h=>h.1.2.of_heap hh)
  (ChangeSpec.witness_shaped (enc:=enc) (C:=Tryz.checked) (os:=os) (X:=fun w _=>laidMetH Tryz.prog Rows.patternWiderRow.laid w) false (World.laidAll Tryz.prog os Rows.patternWiderRow.laid) #[.agg #[.int .i64 0,.int .i64 0,.string ⟨#[]⟩,.slice none 0 0],.slice none 0 0,.agg #[.int .i64 0,.int .i64 0,.string ⟨#[]⟩,.slice none 0 0,.slice none 0 0,.slice none 0 0],.agg #[.int .i64 0,.int .i64 0,.string ⟨#[]⟩,.slice none 0 0,.slice none 0 0],.slice none 0 0] 8 (World.laidAll_os _ _ _)
   (World.shaped_of_ZipB (by kernel_rfl) (by kernel_rfl)) (by kernel_rfl) (by kernel_rfl) (by kernel_rfl)
   (by rw[MakeChecks.laidMetH_plain _ _ _ (by kernel_rfl)];exact laidMet_laidAll _ (by kernel_rfl) (by kernel_rfl)))
 ·exact⟨zHp Tryz.underlying24 op24,zKZ Tryz.underlying43 (m:=1) (b:=1) (by kernel_rfl) (by kernel_rfl) (by decide) (fun a=>by simp) (opensAt_byte Tryz.underlying5),zHp Tryz.underlying31 op31,zHp Tryz.underlying46 op46,zKZ Tryz.underlying22 (m:=4) (b:=56) (by kernel_rfl) (by kernel_rfl) (by decide) (fun a=>by simp) op24,trivial⟩
 ·intro t ht
  have h:t∈[24,43,31,46,22]:=ht
  simp only[List.mem_cons,List.not_mem_nil,or_false] at h
  rcases h with rfl|rfl|rfl|rfl|rfl<;>exact⟨by kernel_rfl,of_decide_eq_true (by kernel_rfl)⟩
end Go.Proofs.YtencdekdgajgfaaGreatDoor
