/- For every input the law PatternBack returns true. Part 13 of 23. No condition. -/
import Derived.Test.YtbnahfdbjaohkaaGreatDoorPBl
import Derived.Laws.Externs
set_option linter.unusedVariables false
set_option linter.unnecessarySimpa false
set_option linter.unusedSimpArgs false
set_option maxRecDepth 100000
set_option maxHeartbeats 4000000
namespace Go.Proofs.YtbnahfdbjaohkaaGreatDoor
open Go Go.Abs Go.RowKit
theorem ixb_any(s:ByteArray)(c:Int)(w:World):Calls Tryz.prog 172 #[.string s,.int .u8 c] w fun e w'=>e=.returned (.int .i64 (Lib.indexByte s.data.toList c.toNat.toUInt8))∧w'=w:=by
 go_enter Tryz.func172,Tryz.ntmps172
 go_wp2
 rw[run_callFunc_extern Tryz.func220 (by kernel_rfl) (by kernel_rfl) (by kernel_rfl) (e:=Extern.BytealgIndexByte.indexByte) (by kernel_rfl)]
 rw[Lib.run_indexByteString]
 simp only[Result.andThen]
 rw[Oper.upon_value]
 go_wp2
 go_ret
 exact⟨rfl,rfl⟩
theorem zIF(c:UInt8): ∀l:List UInt8,Lib.indexByte l c<=l.length
 |[]=>by simp[Lib.indexByte]
 |b::l=>by
  have:=zIF c l
  have e:((b::l).length:Int)=l.length+1:=by simp
  rw[e]
  unfold Lib.indexByte
  split
  ·omega
  ·split
   ·omega
   ·omega
theorem zDw(s0:List UInt8)(c:UInt8)(r:Int)(h:zDC s0 c=some r):Pure Tryz.prog 172 [.str s0,.int .u8 c.toNat] (.int .i64 r):=by
 refine zHI ⟨Tryz.f172,Tryz.func172,by rfl,by rfl⟩ fun imm w vals ha=>?_
 obtain⟨a,b,rfl,h1,h2⟩:=vals2 ha
 cases h1 with
 |str s l hs hb=>
  cases h2 with
  |int k n hn=>
   refine(ixb_any s _ w).mono fun e w' he=>?_
   obtain⟨rfl,rfl⟩:=he
   refine⟨_,rfl,?_,rfl⟩
   rw[hs]
   have e2:((c.toNat:Int).toNat).toUInt8=c:=by simp
   rw[e2]
   cases h
   refine .int .i64 _ ?_
   have:=Lib.indexByte_ge s0 c
   have:=zIF c s0
   simp only[inR]
   omega
theorem count_any(s:ByteArray)(t:ByteArray)(c:UInt8)(ht:t.data=#[c])(w:World):Calls Tryz.prog 111 #[.string s,.string t] w fun e w'=>e=.returned (.int .i64 (Lib.countByte s.data.toList c))∧w'=w:=by
 have hsz:t.size=1:=by show t.data.size=1;rw[ht];rfl
 obtain⟨d⟩:=t
 simp only at ht
 subst ht
 go_enter Tryz.func111,Tryz.ntmps111
 go_wp2
 rw[run_callFunc_extern Tryz.func175 (by kernel_rfl) (by kernel_rfl) (by kernel_rfl) (e:=Extern.BytealgCount.count) (by kernel_rfl)]
 rw[Lib.run_countString]
 simp only[Result.andThen]
 rw[Oper.upon_value]
 go_wp2
 go_ret
 refine⟨?_,rfl⟩
 simp
 rfl
theorem zFU(s0 t0:List UInt8)(r:Int)(h:zDB s0 t0=some r):Pure Tryz.prog 111 [.str s0,.str t0] (.int .i64 r):=by
 refine zHI ⟨Tryz.f111,Tryz.func111,by rfl,by rfl⟩ fun imm w vals ha=>?_
 obtain⟨a,b,rfl,h1,h2⟩:=vals2 ha
 unfold zDB at h
 split at h
 ·rename_i c
  cases h
  cases h1 with
  |str s l hs hb=>
   cases h2 with
   |str t l2 ht _=>
    refine(count_any s t c (by rw[<-Array.toArray_toList (xs:=t.data),ht]) w).mono fun e w' he=>?_
    obtain⟨rfl,rfl⟩:=he
    refine⟨_,rfl,?_,rfl⟩
    rw[hs]
    refine .int .i64 _ ?_
    have:Lib.countByte s0 c<=s0.length:=List.count_le_length
    simp only[inR]
    omega
 ·cases h
end Go.Proofs.YtbnahfdbjaohkaaGreatDoor
