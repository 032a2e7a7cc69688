/- For every input the law PatternBack returns true. Part 9 of 23. No condition. -/
import Derived.Test.YtbnahfdbjaohkaaGreatDoorPBh
import Derived.Lib.Bytealg
import Derived.Lib.Join
import Derived.Lib.Fields
import Derived.Lib.ItoaNum
import Derived.Lib.AtoiAll
set_option linter.unusedVariables false
set_option linter.unnecessarySimpa false
set_option linter.unusedSimpArgs false
set_option maxRecDepth 100000
set_option maxHeartbeats 4000000
namespace Go.Proofs.YtbnahfdbjaohkaaGreatDoor
open Go Go.Abs
def zFq:Option Bool:=some true
def zCy(F_law20_big_1:zJx->Int->Int->Option Int)(p1:zJx)(depth2:Int):Nat->Int->Nat->Option Int
 |0,_,_=>none
 |k23+1,a18,i19=>
  if (ltI i19 p1.L.length)&&(leI a18 200) then
   (p1.L[i19]?).bind fun x35=>
   (chk .i64 (depth2+1)).bind fun n37=>
   (F_law20_big_1 x35 n37 a18).bind fun v42=>
   zCy F_law20_big_1 p1 depth2 k23 v42 (i19+1)
  else
   some a18
def zCR(F_law20_big_1:zJx->Int->Int->Option Int)(p1:zJx)(depth2:Int):Nat->Int->Nat->Option Int
 |0,_,_=>none
 |k61+1,a56,i57=>
  if (ltI i57 p1.L.length)&&(leI a56 200) then
   (p1.L[i57]?).bind fun x70=>
   (chk .i64 (depth2+1)).bind fun n72=>
   (F_law20_big_1 x70 n72 a56).bind fun v77=>
   zCR F_law20_big_1 p1 depth2 k61 v77 (i57+1)
  else
   some a56
def zB6:Nat->zJx->Int->Int->Option Int
 |0,_,_,_=>none
 |fuel+1,p1,depth2,c3=>
  (chk .i64 (c3+1)).bind fun n4=>
  if (ltI 50 depth2)||((ltI 20 p1.L.length)||(ltI 200 p1.S.length)) then
   (zCy (zB6 fuel) p1 depth2 fuel 1000 0).bind fun o20=>
   some o20
  else
   (zCR (zB6 fuel) p1 depth2 fuel n4 0).bind fun o58=>
   some o58
def zE6(fuel:Nat)(p1:zJx):Option Bool:=
 (zB6 fuel p1 1 0).bind fun v2=>
 some (ltI 200 v2)
def zCC(c1:UInt8):Option Int:=
 if (leI 97 c1.toNat)&&(leI c1.toNat 122) then
  some 1
 else if (leI 65 c1.toNat)&&(leI c1.toNat 90) then
  some 2
 else if (leI 48 c1.toNat)&&(leI c1.toNat 57) then
  some 3
 else if eqI c1.toNat 95 then
  some 4
 else if eqI c1.toNat 46 then
  some 5
 else
  some 0
def zBw(l16:List UInt8):Nat->Nat->Option ((Bool) ⊕ (Unit))
 |0,_=>none
 |k25+1,i20=>
  if ltI i20 l16.length then
   (l16[i20]?).bind fun x29=>
   (zCC x29).bind fun v31=>
   if (eqI v31 0)||(eqI v31 5) then
    some (.inl false)
   else
    zBw l16 k25 (i20+1)
  else
   some (.inr ())
def zCk(fuel:Nat)(s1:List UInt8)(first2:Int):Option Bool:=
 (if eqS s1 [] then
  some true
 else if ltI 24 s1.length then
  some true
 else
  (s1[0]?).bind fun c9=>
  (zCC c9).bind fun v11=>
  some (!(eqI v11 first2)):Option Bool).bind fun b13=>
 if b13 then
  some false
 else
  (zHV s1).bind fun l16=>
  (zBw l16 fuel 0).bind fun o=>Sum.elim some (fun o21=>
   some true) o
def zCi(s:List UInt8):Option (List (List UInt8)):=if s.length<4294967281∧s.all (fun c=>decide (c.toNat<128))=true∧(Lib.fields s).length<=100000∧(Lib.fields s).all (fun z=>decide (z.length<=100000))=true then some (Lib.fields s) else none
def zAs(s1:(List (List UInt8)))(v2:List UInt8):Nat->Nat->Option ((Int) ⊕ (Unit))
 |0,_=>none
 |k8+1,i3=>
  if ltI i3 s1.length then
   (s1[i3]?).bind fun x12=>
   if eqS v2 x12 then
    some (.inl ((i3:Nat):Int))
   else
    zAs s1 v2 k8 (i3+1)
  else
   some (.inr ())
def zCX(fuel:Nat)(s1:(List (List UInt8)))(v2:List UInt8):Option Int:=
 (zAs s1 v2 fuel 0).bind fun o=>Sum.elim some (fun o4=>
  some (-1)) o
def zAi(fuel:Nat)(s1:(List (List UInt8)))(v2:List UInt8):Option Bool:=
 (zCX fuel s1 v2).bind fun v3=>
 some (leI 0 v3)
def zEM(fuel:Nat)(s1:List UInt8):Option Bool:=
 (zCi [97,110,100,97,108,115,111,32,99,97,115,101,32,100,97,116,97,32,100,105,118,32,101,108,115,101,32,101,110,100,32,102,110,32,102,117,110,32,102,117,110,99,116,111,114,32,103,101,110,101,114,97,116,105,118,101,32,105,102,32,105,109,112,111,114,116,32,105,110,32,105,110,99,108,117,100,101,32,108,101,116,32,109,111,100,32,109,111,100,117,108,101,32,111,102,32,111,112,101,110,32,111,114,101,108,115,101,32,112,97,99,107,32,115,104,97,114,105,110,103,32,115,105,103,32,115,105,103,110,97,116,117,114,101,32,115,116,114,117,99,116,32,115,116,114,117,99,116,117,114,101,32,116,104,101,110,32,116,121,112,101,32,117,110,112,97,99,107,32,118,97,108,32,119,105,116,104]).bind fun v2=>
 (zAi fuel v2 s1).bind fun v4=>
 some v4
def zAw(fuel:Nat)(s1:List UInt8):Option Bool:=
 ((zCk fuel s1 1).bind fun v2=>
 if v2 then
  (zEM fuel s1).bind fun v5=>
  some (!v5)
 else
  some false:Option Bool).bind fun b7=>
 some b7
def zA0(fuel:Nat)(s1:List UInt8):Option Bool:=
 (zCk fuel s1 2).bind fun v2=>
 some v2
def zD8(fuel:Nat)(p1:zJx):Option Bool:=
 if eqI p1.Op 1 then
  some ((eqI p1.L.length 0)&&((eqI p1.N 0)&&(eqS p1.S [])))
 else if eqI p1.Op 2 then
  (if eqI p1.L.length 0 then
   if eqI p1.N 0 then
    (zAw fuel p1.S).bind fun v17=>
    some v17
   else
    some false
  else
   some false:Option Bool).bind fun b21=>
  some b21
 else if eqI p1.Op 3 then
  some ((eqI p1.L.length 0)&&((eqS p1.S [])&&((leI (-4503599627370496) p1.N)&&(leI p1.N 4503599627370496))))
 else if eqI p1.Op 4 then
  (if leI p1.L.length 1 then
   if eqI p1.N 0 then
    (zA0 fuel p1.S).bind fun v42=>
    some v42
   else
    some false
  else
   some false:Option Bool).bind fun b47=>
  some b47
 else if eqI p1.Op 5 then
  some ((!(eqI p1.L.length 1))&&((leI p1.L.length 9)&&((eqI p1.N 0)&&(eqS p1.S []))))
 else
  some false
def zBd(F_pattern_measure:zJx->Int->Int->Option (Int×Bool))(p1:zJx)(left2:Int)(depth3:Int):Nat->Int->Nat->Option ((Int×Bool) ⊕ (Int))
 |0,_,_=>none
 |k21+1,n15,i16=>
  if ltI i16 p1.L.length then
   (p1.L[i16]?).bind fun x25=>
   (chk .i64 (left2-n15)).bind fun n27=>
   (chk .i64 (depth3+1)).bind fun n32=>
   (F_pattern_measure x25 n27 n32).bind fun v37=>
   if !v37.2 then
    some (.inl (0,false))
   else
    (chk .i64 (n15+v37.1)).bind fun n42=>
    zBd F_pattern_measure p1 left2 depth3 k21 n42 (i16+1)
  else
   some (.inr n15)
def zBe:Nat->zJx->Int->Int->Option (Int×Bool)
 |0,_,_,_=>none
 |fuel+1,p1,left2,depth3=>
  (if leI left2 0 then
   some true
  else if ltI 400 depth3 then
   some true
  else
   (zD8 fuel p1).bind fun v10=>
   some (!v10):Option Bool).bind fun b12=>
  if b12 then
   some (0,false)
  else
   (zBd (zBe fuel) p1 left2 depth3 fuel 1 0).bind fun o=>Sum.elim some (fun o17=>
    some (o17,true)) o
def zDg(name1:List UInt8)(c2:Bool)(c3:(List (List UInt8×Bool))):Option (Bool×(List (List UInt8×Bool))):=
 some (c2&&(!(mgetD c3 name1 false)),mput c3 name1 true)
def zAa(F_pattern_variables_Valid_1:zJx->Bool->(List (List UInt8×Bool))->Option (Bool×(List (List UInt8×Bool))))(p1:zJx):Nat->Bool->(List (List UInt8×Bool))->Nat->Option (Bool×(List (List UInt8×Bool)))
 |0,_,_,_=>none
 |k14+1,a8,a9,i10=>
  if ltI i10 p1.L.length then
   (p1.L[i10]?).bind fun x18=>
   (F_pattern_variables_Valid_1 x18 a8 a9).bind fun v20=>
   zAa F_pattern_variables_Valid_1 p1 k14 v20.1 v20.2 (i10+1)
  else
   some (a8,a9)
def zAj(F_pattern_variables_Valid_1:zJx->Bool->(List (List UInt8×Bool))->Option (Bool×(List (List UInt8×Bool))))(p1:zJx):Nat->Bool->(List (List UInt8×Bool))->Nat->Option (Bool×(List (List UInt8×Bool)))
 |0,_,_,_=>none
 |k37+1,a31,a32,i33=>
  if ltI i33 p1.L.length then
   (p1.L[i33]?).bind fun x41=>
   (F_pattern_variables_Valid_1 x41 a31 a32).bind fun v43=>
   zAj F_pattern_variables_Valid_1 p1 k37 v43.1 v43.2 (i33+1)
  else
   some (a31,a32)
def zAL:Nat->zJx->Bool->(List (List UInt8×Bool))->Option (Bool×(List (List UInt8×Bool)))
 |0,_,_,_=>none
 |fuel+1,p1,c2,c3=>
  if eqI p1.Op 2 then
   (zDg p1.S c2 c3).bind fun v6=>
   (zAa (zAL fuel) p1 fuel v6.1 v6.2 0).bind fun o11=>
   some (o11.1,o11.2)
  else
   (zAj (zAL fuel) p1 fuel c2 c3 0).bind fun o34=>
   some (o34.1,o34.2)
def zDa(fuel:Nat)(p1:zJx):Option Bool:=
 (zBe fuel p1 20000 1).bind fun v2=>
 if !v2.2 then
  some false
 else
  (zAL fuel p1 true []).bind fun v7=>
  some v7.1
def zCu(n:Int):Option (List UInt8):=if (Lib.itoa n).length<=1000 then some (Lib.itoa n) else none
def zD7(l:List (List UInt8))(s:List UInt8):Option (List UInt8):=if l.length<=140737488355328∧(Lib.join l s).length<=140737488355328 then some (Lib.join l s) else none
def zB5(F_pattern_text:zJx->Option ((List UInt8)))(p1:zJx):Nat->(List (List UInt8))->Nat->Option ((List (List UInt8)))
 |0,_,_=>none
 |k77+1,l72,i73=>
  if ltI i73 p1.L.length then
   (p1.L[i73]?).bind fun x81=>
   (F_pattern_text x81).bind fun v83=>
   (app 16 l72 [v83]).bind fun l85=>
   zB5 F_pattern_text p1 k77 l85 (i73+1)
  else
   some l72
def zBr:Nat->zJx->Option ((List UInt8))
 |0,_=>none
 |fuel+1,p1=>
  if eqI p1.Op 1 then
   some [95]
  else if eqI p1.Op 2 then
   some p1.S
  else if eqI p1.Op 3 then
   if ltI p1.N 0 then
    (chk .i64 (-p1.N)).bind fun n12=>
    (zCu n12).bind fun v16=>
    (cat [126,32] v16).bind fun s18=>
    some s18
   else
    (zCu p1.N).bind fun v24=>
    some v24
  else if eqI p1.Op 4 then
   if eqI p1.L.length 0 then
    some p1.S
   else
    (p1.L[0]?).bind fun x33=>
    ((zBr fuel) x33).bind fun v35=>
    if (eqI x33.Op 4)&&(ltI 0 x33.L.length) then
     (cat [40] v35).bind fun s46=>
     (cat s46 [41]).bind fun s50=>
     (cat p1.S [32]).bind fun s54=>
     (cat s54 s50).bind fun s58=>
     some s58
    else
     (cat p1.S [32]).bind fun s62=>
     (cat s62 v35).bind fun s66=>
     some s66
  else
   (zB5 (zBr fuel) p1 fuel [] 0).bind fun o74=>
   (zD7 o74 [44,32]).bind fun v94=>
   (cat [40] v94).bind fun s96=>
   (cat s96 [41]).bind fun s100=>
   some s100
def zD9(fuel:Nat)(p1:zJx):Option ((List UInt8)×Int):=
 (zDa fuel p1).bind fun v2=>
 if !v2 then
  some ([],1)
 else
  (zBr fuel p1).bind fun v7=>
  if ltI 16384 v7.length then
   some ([],5)
  else
   some (v7,0)
def zDC(s:List UInt8)(c:UInt8):Option Int:=some (Lib.indexByte s c)
def zB1(s1:List UInt8)(c2:UInt8):Option Int:=
 (zDC s1 c2).bind fun v3=>
 some v3
def zBC(s1:List UInt8)(prefix2:List UInt8):Option Bool:=
 (if leI prefix2.length s1.length then
  (subC s1 0 (prefix2.length:Int)).bind fun s7=>
  some (eqS s7 prefix2)
 else
  some false:Option Bool).bind fun b14=>
 some b14
def zA8(s1:List UInt8)(prefix2:List UInt8):Option Bool:=
 (zBC s1 prefix2).bind fun v3=>
 some v3
def zAN(w1:zJs)(at2:Int):Nat->Int->Int->Option ((Int×zJs) ⊕ (Int))
 |0,_,_=>none
 |k36+1,at30,depth31=>
  if leI w1.s.length at30 then
   some (.inl (at2,(zJs.mk w1.s at30)))
  else
   (subC w1.s at30 (w1.s.length:Int)).bind fun s40=>
   (zA8 s40 [40,42]).bind fun v44=>
   if v44 then
    (chk .i64 (depth31+1)).bind fun n47=>
    (chk .i64 (at30+2)).bind fun n52=>
    if eqI n47 0 then
     some (.inr n52)
    else
     zAN w1 at2 k36 n52 n47
   else
    (zA8 s40 [42,41]).bind fun v61=>
    if v61 then
     (chk .i64 (depth31-1)).bind fun n64=>
     (chk .i64 (at30+2)).bind fun n69=>
     if eqI n64 0 then
      some (.inr n69)
     else
      zAN w1 at2 k36 n69 n64
    else
     (chk .i64 (at30+1)).bind fun n78=>
     if eqI depth31 0 then
      some (.inr n78)
     else
      zAN w1 at2 k36 n78 depth31
def zA5(fuel:Nat)(w1:zJs):Nat->Int->Option ((Int×zJs) ⊕ (Int))
 |0,_=>none
 |k7+1,at2=>
  if ltI at2 w1.s.length then
   (subC w1.s at2 (w1.s.length:Int)).bind fun s11=>
   (s11[0]?).bind fun c15=>
   (zB1 [32,9,10] c15).bind fun v17=>
   if leI 0 v17 then
    (chk .i64 (at2+1)).bind fun n21=>
    zA5 fuel w1 k7 n21
   else
    (zA8 s11 [40,42]).bind fun v27=>
    if v27 then
     (zAN w1 at2 fuel at2 0).bind fun o=>Sum.elim (fun r=>some (.inl r)) (fun o32=>
      zA5 fuel w1 k7 o32) o
    else
     some (.inl ((-1),(zJs.mk w1.s at2)))
  else
   some (.inr at2)
def zBt(fuel:Nat)(w1:zJs):Option (Int×zJs):=
 (zA5 fuel w1 fuel w1.at_).bind fun o=>Sum.elim some (fun o3=>
  some ((-1),(zJs.mk w1.s o3))) o
def zDB(s t:List UInt8):Option Int:=match t with
 |[c]=>some (Lib.countByte s c:Nat)
 |_=>none
def zAM(s1:List UInt8)(c2:UInt8):Nat->Int->Option ((Int) ⊕ (Unit))
 |0,_=>none
 |k15+1,i8=>
  if leI 0 i8 then
   (idx s1 i8).bind fun c18=>
   if eqI c18.toNat c2.toNat then
    some (.inl i8)
   else
    zAM s1 c2 k15 (i8-1)
  else
   some (.inr ())
def zBX(fuel:Nat)(s1:List UInt8)(c2:UInt8):Option Int:=
 (chk .i64 ((s1.length:Int)-1)).bind fun n3=>
 (zAM s1 c2 fuel n3).bind fun o=>Sum.elim some (fun o9=>
  some (-1)) o
def zCB(fuel:Nat)(s1:List UInt8)(c2:UInt8):Option Int:=
 (zBX fuel s1 c2).bind fun v3=>
 some v3
def zCQ(fuel:Nat)(s1:List UInt8)(at2:Int):Option (zJw):=
 (subC s1 0 at2).bind fun s3=>
 (zDB s3 [10]).bind fun v7=>
 (chk .i64 (1+v7)).bind fun n9=>
 (zCB fuel s3 (10:UInt8)).bind fun v14=>
 (chk .i64 (at2-v14)).bind fun n16=>
 some (zJw.mk n9 n16)
def zDL(c1:UInt8):Option Bool:=
 some ((leI 97 c1.toNat)&&(leI c1.toNat 122))
def zDc(c1:UInt8):Option Bool:=
 some ((leI 65 c1.toNat)&&(leI c1.toNat 90))
def zDr(c1:UInt8):Option Bool:=
 some ((leI 48 c1.toNat)&&(leI c1.toNat 57))
def zET(c1:UInt8):Option Bool:=
 ((zDL c1).bind fun v2=>
 if v2 then
  some true
 else
  (zDc c1).bind fun v5=>
  if v5 then
   some true
  else
   (zDr c1).bind fun v8=>
   if v8 then
    some true
   else
    some (eqI c1.toNat 95):Option Bool).bind fun b11=>
 some b11
def zBD(s1:List UInt8):Nat->Int->Option Int
 |0,_=>none
 |k7+1,n2=>
  (if ltI n2 s1.length then
   (idx s1 n2).bind fun c11=>
   (zET c11).bind fun v15=>
   some v15
  else
   some false:Option Bool).bind fun b19=>
  if b19 then
   (chk .i64 (n2+1)).bind fun n22=>
   zBD s1 k7 n22
  else
   some n2
def zCH(fuel:Nat)(s1:List UInt8):Option Int:=
 (zBD s1 fuel 0).bind fun o3=>
 some o3
def zDd(s1:List UInt8):Option Bool:=
 if eqS s1 [97,110,100,97,108,115,111] then
  some true
 else if eqS s1 [99,97,115,101] then
  some true
 else if eqS s1 [100,97,116,97] then
  some true
 else if eqS s1 [100,105,118] then
  some true
 else if eqS s1 [101,108,115,101] then
  some true
 else if eqS s1 [101,110,100] then
  some true
 else if eqS s1 [102,110] then
  some true
 else if eqS s1 [102,117,110] then
  some true
 else if eqS s1 [102,117,110,99,116,111,114] then
  some true
 else if eqS s1 [103,101,110,101,114,97,116,105,118,101] then
  some true
 else if eqS s1 [105,102] then
  some true
 else if eqS s1 [105,109,112,111,114,116] then
  some true
 else if eqS s1 [105,110] then
  some true
 else if eqS s1 [105,110,99,108,117,100,101] then
  some true
 else if eqS s1 [108,101,116] then
  some true
 else if eqS s1 [109,111,100] then
  some true
 else if eqS s1 [109,111,100,117,108,101] then
  some true
 else if eqS s1 [111,102] then
  some true
 else if eqS s1 [111,112,101,110] then
  some true
 else if eqS s1 [111,114,101,108,115,101] then
  some true
 else if eqS s1 [112,97,99,107] then
  some true
 else if eqS s1 [115,104,97,114,105,110,103] then
  some true
 else if eqS s1 [115,105,103] then
  some true
 else if eqS s1 [115,105,103,110,97,116,117,114,101] then
  some true
 else if eqS s1 [115,116,114,117,99,116] then
  some true
 else if eqS s1 [115,116,114,117,99,116,117,114,101] then
  some true
 else if eqS s1 [116,104,101,110] then
  some true
 else if eqS s1 [116,121,112,101] then
  some true
 else if eqS s1 [117,110,112,97,99,107] then
  some true
 else if eqS s1 [118,97,108] then
  some true
 else if eqS s1 [119,105,116,104] then
  some true
 else
  some false
def zAo(kind1:Int)(n2:Int)(text3:List UInt8)(w4:zJs):Option (zJu×Int×Int×zJs):=
 (chk .i64 (w4.at_+n2)).bind fun n5=>
 some ((zJu.mk kind1 text3 (zJw.mk 0 0)),0,0,(zJs.mk w4.s n5))
def zAv(by1:Int)(e2:Int)(w3:zJs):Option (zJu×Int×Int):=
 (chk .i64 (w3.at_+by1)).bind fun n4=>
 some ((zJu.mk 0 [] (zJw.mk 0 0)),n4,e2)
def zBE(s1:List UInt8):Nat->Int->Option Int
 |0,_=>none
 |k7+1,n2=>
  (if ltI n2 s1.length then
   (idx s1 n2).bind fun c11=>
   (zDr c11).bind fun v15=>
   some v15
  else
   some false:Option Bool).bind fun b19=>
  if b19 then
   (chk .i64 (n2+1)).bind fun n22=>
   zBE s1 k7 n22
  else
   some n2
def zCj(fuel:Nat)(s1:List UInt8):Option Int:=
 (zBE s1 fuel 0).bind fun o3=>
 some o3
def zAb(s1:List UInt8):Nat->Int->Nat->Option ((Int) ⊕ (Unit))
 |0,_,_=>none
 |k18+1,n12,i13=>
  if ltI i13 s1.length then
   (chk .i64 (10*n12)).bind fun n22=>
   (s1[i13]?).bind fun c27=>
   (chk .u8 ((c27.toNat:Int)-48)).bind fun n29=>
   (chk .i64 (n22+n29)).bind fun n35=>
   if ltI 4503599627370496 n35 then
    some (.inl 6)
   else
    zAb s1 k18 n35 (i13+1)
  else
   some (.inr ())
def zCM(fuel:Nat)(s1:List UInt8):Option Int:=
 (if ltI 1 s1.length then
  (s1[0]?).bind fun c5=>
  some (eqI c5.toNat 48)
 else
  some false:Option Bool).bind fun b9=>
 if b9 then
  some 3
 else
  (zAb s1 fuel 0 0).bind fun o=>Sum.elim some (fun o14=>
   some 0) o
def zCd(b:List UInt8):Option (List UInt8):=some b
def zCq(b:List UInt8):Option Unit:=some ()
def zAm(c1:UInt8)(b2:List UInt8):Option ((List UInt8)):=
 (zCq b2).bind fun v3=>
 (app 1 b2 [c1]).bind fun l5=>
 some l5
def zDb(c1:UInt8):Option Bool:=
 some ((leI 32 c1.toNat)&&(leI c1.toNat 126))
def zAP(s1:List UInt8):Nat->(List UInt8)->Nat->Option (((List UInt8)×Int×Int×Int) ⊕ ((List UInt8)))
 |0,_,_=>none
 |k8+1,buf2,i3=>
  if ltI i3 s1.length then
   (s1[i3]?).bind fun c12=>
   if eqI c12.toNat 34 then
    (zCd buf2).bind fun v16=>
    some (.inl (v16,((i3+1:Nat):Int),0,0))
   else if (eqI c12.toNat 92)&&(ltI ((i3+1:Nat):Int) (s1.length:Int)) then
    (s1[i3+1]?).bind fun c31=>
    if eqI c31.toNat 34 then
     (zAm c31 buf2).bind fun v35=>
     zAP s1 k8 v35 ((i3+1)+1)
    else if eqI c31.toNat 92 then
     (zAm c31 buf2).bind fun v42=>
     zAP s1 k8 v42 ((i3+1)+1)
    else if eqI c31.toNat 110 then
     (zAm (10:UInt8) buf2).bind fun v49=>
     zAP s1 k8 v49 ((i3+1)+1)
    else
     some (.inl ([],0,((i3+1:Nat):Int)-1,3))
   else if eqI c12.toNat 92 then
    some (.inl ([],0,0,4))
   else
    (zDb c12).bind fun v58=>
    if !v58 then
     some (.inl ([],0,((i3:Nat):Int),3))
    else
     (zAm c12 buf2).bind fun v63=>
     zAP s1 k8 v63 (i3+1)
  else
   some (.inr buf2)
def zCw(fuel:Nat)(s1:List UInt8):Option ((List UInt8)×Int×Int×Int):=
 (zAP s1 fuel [] 1).bind fun o=>Sum.elim some (fun o4=>
  some ([],0,0,4)) o
def zBs(s1:List UInt8)(l5:(List (List UInt8))):Nat->Nat->Option (((List UInt8)×Bool) ⊕ (Unit))
 |0,_=>none
 |k14+1,i9=>
  if ltI i9 l5.length then
   (l5[i9]?).bind fun x18=>
   (zA8 s1 x18).bind fun v20=>
   if v20 then
    some (.inl (x18,true))
   else
    zBs s1 l5 k14 (i9+1)
  else
   some (.inr ())
def zEA(fuel:Nat)(s1:List UInt8):Option ((List UInt8)×Bool):=
 (zA8 s1 [40,42]).bind fun v2=>
 if v2 then
  some ([],false)
 else
  (some [[58,62],[61,62],[45,62],[60,61]]).bind fun l5=>
  (zBs s1 l5 fuel 0).bind fun o=>Sum.elim some (fun o10=>
   (if !(eqS s1 []) then
    (s1[0]?).bind fun c30=>
    (zB1 [40,41,44,59,58,61,124,95,46,42,43,45,60,94,126] c30).bind fun v32=>
    some (leI 0 v32)
   else
    some false:Option Bool).bind fun b35=>
   if b35 then
    (subC s1 0 1).bind fun s38=>
    some (s38,true)
   else
    some ([],false)) o
def zCY(fuel:Nat)(w1:zJs):Option (zJu×Int×Int×zJs):=
 (subC w1.s w1.at_ (w1.s.length:Int)).bind fun s2=>
 (s2[0]?).bind fun c6=>
 ((zDL c6).bind fun v8=>
 if v8 then
  some true
 else
  (zDc c6).bind fun v11=>
  some v11:Option Bool).bind fun b13=>
 if b13 then
  (zCH fuel s2).bind fun v16=>
  (subC s2 0 v16).bind fun s18=>
  (zDd s18).bind fun v22=>
  if v22 then
   (zAo 6 v16 s18 w1).bind fun v25=>
   some (v25.1,v25.2.1,v25.2.2.1,v25.2.2.2)
  else if ltI 24 v16 then
   (zAv 0 5 w1).bind fun v30=>
   some (v30.1,v30.2.1,v30.2.2,w1)
  else
   (zDL c6).bind fun v34=>
   if v34 then
    (zAo 1 v16 s18 w1).bind fun v37=>
    some (v37.1,v37.2.1,v37.2.2.1,v37.2.2.2)
   else
    (zAo 2 v16 s18 w1).bind fun v40=>
    some (v40.1,v40.2.1,v40.2.2.1,v40.2.2.2)
 else if eqI c6.toNat 39 then
  (if ltI s2.length 2 then
   some true
  else
   (s2[1]?).bind fun c53=>
   (zDL c53).bind fun v55=>
   some (!v55):Option Bool).bind fun b57=>
  if b57 then
   (zAv 0 3 w1).bind fun v60=>
   some (v60.1,v60.2.1,v60.2.2,w1)
  else
   (subC s2 1 (s2.length:Int)).bind fun s63=>
   (zCH fuel s63).bind fun v67=>
   (chk .i64 (1+v67)).bind fun n69=>
   if ltI 24 n69 then
    (zAv 0 5 w1).bind fun v76=>
    some (v76.1,v76.2.1,v76.2.2,w1)
   else
    (subC s2 0 n69).bind fun s80=>
    (zAo 3 n69 s80 w1).bind fun v84=>
    some (v84.1,v84.2.1,v84.2.2.1,v84.2.2.2)
 else
  (zDr c6).bind fun v90=>
  if v90 then
   (zCj fuel s2).bind fun v93=>
   (subC s2 0 v93).bind fun s95=>
   (zCM fuel s95).bind fun v99=>
   if !(eqI v99 0) then
    (zAv 0 v99 w1).bind fun v104=>
    some (v104.1,v104.2.1,v104.2.2,w1)
   else
    (zAo 4 v93 s95 w1).bind fun v109=>
    some (v109.1,v109.2.1,v109.2.2.1,v109.2.2.2)
  else if eqI c6.toNat 34 then
   (zCw fuel s2).bind fun v116=>
   if !(eqI v116.2.2.2 0) then
    (zAv v116.2.2.1 v116.2.2.2 w1).bind fun v121=>
    some (v121.1,v121.2.1,v121.2.2,w1)
   else
    (zAo 5 v116.2.1 v116.1 w1).bind fun v126=>
    some (v126.1,v126.2.1,v126.2.2.1,v126.2.2.2)
  else
   (zEA fuel s2).bind fun v131=>
   if v131.2 then
    (zAo 7 (v131.1.length:Int) v131.1 w1).bind fun v134=>
    some (v134.1,v134.2.1,v134.2.2.1,v134.2.2.2)
   else
    (zAv 0 3 w1).bind fun v137=>
    some (v137.1,v137.2.1,v137.2.2,w1)
def zCW(fuel:Nat)(s1:List UInt8):Nat->(List UInt8)->Int->(List zJu)->Option ((List zJu)×zJw×Int)
 |0,_,_,_=>none
 |k12+1,s7,at8,out9=>
  (zBt fuel (zJs.mk s7 at8)).bind fun v13=>
  if leI 0 v13.1 then
   (zCQ fuel s1 v13.1).bind fun v17=>
   some ([],v17,4)
  else if leI s1.length v13.2.at_ then
   (zCQ fuel s1 (s1.length:Int)).bind fun v23=>
   (app 40 out9 [(zJu.mk 8 [] v23)]).bind fun l25=>
   some (l25,(zJw.mk 0 0),0)
  else if eqI out9.length 20000 then
   (zCQ fuel s1 v13.2.at_).bind fun v33=>
   some ([],v33,5)
  else
   (zCY fuel v13.2).bind fun v37=>
   if !(eqI v37.2.2.1 0) then
    (zCQ fuel s1 v37.2.1).bind fun v42=>
    some ([],v42,v37.2.2.1)
   else
    (zCQ fuel s1 v13.2.at_).bind fun v47=>
    (app 40 out9 [(zJu.mk v37.1.Kind v37.1.Text v47)]).bind fun l49=>
    zCW fuel s1 k12 v37.2.2.2.s v37.2.2.2.at_ l49
def zC4(fuel:Nat)(s1:List UInt8):Option ((List zJu)×zJw×Int):=
 if ltI 16384 s1.length then
  some ([],(zJw.mk 0 0),5)
 else
  zCW fuel s1 fuel s1 0 []
def zAJ(k1:Int)(w2:zJr):Option Bool:=
 (idx w2.l w2.at_).bind fun x3=>
 some (eqI x3.Kind k1)
def zAS(s1:List UInt8)(w2:zJr):Option Bool:=
 (idx w2.l w2.at_).bind fun x3=>
 some (if eqI x3.Kind 6 then eqS x3.Text s1 else (eqI x3.Kind 7)&&(eqS x3.Text s1))
def zAV(s1:List UInt8)(w2:zJr):Option (Bool×zJr):=
 (zAS s1 w2).bind fun v3=>
 if !v3 then
  some (false,w2)
 else
  (chk .i64 (w2.at_+1)).bind fun n8=>
  some (true,(zJr.mk w2.l n8))
def zCo(w1:zJr):Option ((Unit) ⊕ (Empty)):=
 some (.inl ())
def zAn(k1:Int)(w2:zJr):Option ((Unit) ⊕ ((List UInt8)×zJr)):=
 (zAJ k1 w2).bind fun v3=>
 if !v3 then
  (zCo w2).bind fun v7=>
  Sum.elim (fun e9=>
   some (.inl ())) (fun v10=>
   none) v7
 else
  (chk .i64 (w2.at_+1)).bind fun n13=>
  (chk .i64 (n13-1)).bind fun n18=>
  (idx w2.l n18).bind fun x23=>
  some (.inr (x23.Text,(zJr.mk w2.l n13)))
def zC3(s:List UInt8):Option (Int×Bool):=if s.length<=1000000 then (match Lib.atoiAll s with
 |.ok v=>some (v,false)
 |.range=>some (Lib.atoiSat s,true)
 |_=>some (0,true)) else none
def zAy(l13:List UInt8):Nat->Nat->Option ((Int×Int) ⊕ (Unit))
 |0,_=>none
 |k22+1,i17=>
  if ltI i17 l13.length then
   (l13[i17]?).bind fun x26=>
   (zCC x26).bind fun v28=>
   if !(eqI v28 3) then
    some (.inl (0,3))
   else
    zAy l13 k22 (i17+1)
  else
   some (.inr ())
def zBN(fuel:Nat)(s1:List UInt8):Option (Int×Int):=
 (if eqS s1 [] then
  some true
 else if ltI 1 s1.length then
  (s1[0]?).bind fun c6=>
  some (eqI c6.toNat 48)
 else
  some false:Option Bool).bind fun b10=>
 if b10 then
  some (0,3)
 else
  (zHV s1).bind fun l13=>
  (zAy l13 fuel 0).bind fun o=>Sum.elim some (fun o18=>
   (zC3 s1).bind fun v40=>
   if v40.2 then
    some (0,6)
   else if ltI 4503599627370496 v40.1 then
    some (0,6)
   else
    some (v40.1,0)) o
def zBY(fuel:Nat)(w1:zJr):Option ((Unit) ⊕ (Int×zJr)):=
 (zAn 4 w1).bind fun v2=>
 Sum.elim (fun e4=>
  some (.inl ())) (fun v5=>
  (zBN fuel v5.1).bind fun v6=>
  some (.inr (v6.1,v5.2))) v2
def zAf:Nat->(List zJu)->Int->(List (List UInt8))->Option (((zJr) ⊕ ((List (List UInt8))×zJr)) ⊕ ((List (List UInt8))×(List zJu)×Int))
 |0,_,_,_=>none
 |k13+1,l6,at7,out8=>
  (zAV [46] (zJr.mk l6 at7)).bind fun v14=>
  if v14.1 then
   (zAn 2 v14.2).bind fun v17=>
   Sum.elim (fun e19=>
    some (.inl (.inl v14.2))) (fun v20=>
    (app 16 out8 [v20.1]).bind fun l21=>
    zAf k13 v20.2.l v20.2.at_ l21) v17
  else
   some (.inr (out8,v14.2.l,v14.2.at_))
def zBA(fuel:Nat)(w1:zJr):Option ((zJr) ⊕ ((List (List UInt8))×zJr)):=
 (zAn 2 w1).bind fun v2=>
 Sum.elim (fun e4=>
  some (.inl w1)) (fun v5=>
  (zAf fuel v5.2.l v5.2.at_ [v5.1]).bind fun o=>Sum.elim some (fun o9=>
   some (.inr (o9.1,(zJr.mk o9.2.1 o9.2.2)))) o) v2
def zBo(s1:List UInt8)(w2:zJr):Option ((zJr) ⊕ (zJr)):=
 (zAV s1 w2).bind fun v3=>
 if !v3.1 then
  (zCo v3.2).bind fun v7=>
  Sum.elim (fun e9=>
   some (.inl v3.2)) (fun v10=>
   none) v7
 else
  some (.inr v3.2)
def zBj(w1:zJr):Option Bool:=
 ((zAJ 2 w1).bind fun v2=>
 if v2 then
  some true
 else
  (zAJ 1 w1).bind fun v5=>
  some v5:Option Bool).bind fun b7=>
 some b7
def zAx(F_parsecore_parser_pattern:zJr->Option ((zJr) ⊕ (zJv×zJr))):Nat->(List zJu)->Int->(List zJv)->Option (((zJr) ⊕ (zJv×zJr)) ⊕ ((List zJv)×(List zJu)×Int))
 |0,_,_,_=>none
 |k63+1,l56,at57,l58=>
  (zAV [44] (zJr.mk l56 at57)).bind fun v64=>
  if v64.1 then
   (F_parsecore_parser_pattern v64.2).bind fun v67=>
   Sum.elim (fun e69=>
    some (.inl (.inl e69))) (fun v70=>
    (app 80 l58 [v70.1]).bind fun l71=>
    zAx F_parsecore_parser_pattern k63 v70.2.l v70.2.at_ l71) v67
  else
   some (.inr (l58,v64.2.l,v64.2.at_))
mutual
def zA6:Nat->zJr->Option ((zJr) ⊕ (zJv×zJr))
 |0,_=>none
 |fuel+1,w1=>
  (zAV [95] w1).bind fun v2=>
  if v2.1 then
   some (.inr ((zJv.mk 11 0 [] [] []),v2.2))
  else
   (zAV [126] v2.2).bind fun v5=>
   if v5.1 then
    (zBY fuel v5.2).bind fun v8=>
    Sum.elim (fun e10=>
     some (.inl v5.2)) (fun v11=>
     (chk .i64 (-v11.1)).bind fun n12=>
     some (.inr ((zJv.mk 13 n12 [] [] []),v11.2))) v8
   else
    (zAJ 4 v5.2).bind fun v18=>
    if v18 then
     (zBY fuel v5.2).bind fun v21=>
     Sum.elim (fun e23=>
      some (.inl v5.2)) (fun v24=>
      some (.inr ((zJv.mk 13 v24.1 [] [] []),v24.2))) v21
    else
     (zAJ 1 v5.2).bind fun v27=>
     if v27 then
      (zAn 1 v5.2).bind fun v30=>
      Sum.elim (fun e32=>
       some (.inl v5.2)) (fun v33=>
       some (.inr ((zJv.mk 12 0 v33.1 [] []),v33.2))) v30
     else
      (zAJ 2 v5.2).bind fun v36=>
      if v36 then
       (zBA fuel v5.2).bind fun v39=>
       Sum.elim (fun e41=>
        some (.inl e41)) (fun v42=>
        some (.inr ((zJv.mk 14 0 [] v42.1 []),v42.2))) v39
      else
       (zBo [40] v5.2).bind fun v45=>
       Sum.elim (fun e47=>
        some (.inl e47)) (fun v48=>
        (zAV [41] v48).bind fun v49=>
        if v49.1 then
         some (.inr ((zJv.mk 15 0 [] [] []),v49.2))
        else
         ((zAZ fuel) v49.2).bind fun v52=>
         Sum.elim (fun e54=>
          some (.inl e54)) (fun v55=>
          (zAx (zAZ fuel) fuel v55.2.l v55.2.at_ [v55.1]).bind fun o=>Sum.elim some (fun o59=>
           (zBo [41] (zJr.mk o59.2.1 o59.2.2)).bind fun v81=>
           Sum.elim (fun e83=>
            some (.inl e83)) (fun v84=>
            if eqI o59.1.length 1 then
             (o59.1[0]?).bind fun x87=>
             some (.inr (x87,v84))
            else
             some (.inr ((zJv.mk 15 0 [] [] o59.1),v84))) v81) o) v52) v45
def zAZ:Nat->zJr->Option ((zJr) ⊕ (zJv×zJr))
 |0,_=>none
 |fuel+1,w1=>
  (zAJ 2 w1).bind fun v2=>
  if !v2 then
   ((zA6 fuel) w1).bind fun v6=>
   Sum.elim (fun e8=>
    some (.inl e8)) (fun v9=>
    some (.inr (v9.1,v9.2))) v6
  else
   (zBA fuel w1).bind fun v13=>
   Sum.elim (fun e15=>
    some (.inl e15)) (fun v16=>
    ((zBj v16.2).bind fun v17=>
    if v17 then
     some true
    else
     (zAJ 4 v16.2).bind fun v20=>
     if v20 then
      some true
     else
      (zAS [95] v16.2).bind fun v23=>
      if v23 then
       some true
      else
       (zAS [126] v16.2).bind fun v26=>
       if v26 then
        some true
       else
        (zAS [40] v16.2).bind fun v29=>
        some v29:Option Bool).bind fun b31=>
    if b31 then
     ((zA6 fuel) v16.2).bind fun v34=>
     Sum.elim (fun e36=>
      some (.inl e36)) (fun v37=>
      some (.inr ((zJv.mk 14 0 [] v16.1 [v37.1]),v37.2))) v34
    else
     some (.inr ((zJv.mk 14 0 [] v16.1 []),v16.2))) v13
end
def zCf(v:Option (zJr ⊕ (zJv×zJr))):Option (zJv×Bool×zJr):=
 v.bind fun v=>Sum.elim (fun e=>some ((zJv.mk 0 0 [] [] []),false,e)) (fun v=>some (v.1,true,v.2)) v
def zCP(fuel:Nat)(cat:Int)(w:zJr):Option (zJv×Bool×zJr):=
 if eqI cat 1 then none
 else if eqI cat 2 then zCf (zAZ fuel w)
 else none
def zBT(w1:zJr):Option Int:=
 (zAJ 8 w1).bind fun v2=>
 if v2 then
  some 4
 else
  some 3
def zC6(op1:Int):Option Int:=
 if eqI op1 1 then
  some 1
 else if eqI op1 2 then
  some 1
 else if eqI op1 3 then
  some 1
 else if eqI op1 4 then
  some 1
 else if eqI op1 5 then
  some 1
 else if eqI op1 11 then
  some 2
 else if eqI op1 12 then
  some 2
 else if eqI op1 13 then
  some 2
 else if eqI op1 14 then
  some 2
 else if eqI op1 15 then
  some 2
 else if eqI op1 21 then
  some 3
 else if eqI op1 22 then
  some 3
 else if eqI op1 23 then
  some 3
 else if eqI op1 24 then
  some 3
 else if eqI op1 25 then
  some 3
 else if eqI op1 26 then
  some 3
 else if eqI op1 27 then
  some 3
 else if eqI op1 28 then
  some 3
 else if eqI op1 29 then
  some 3
 else if eqI op1 31 then
  some 3
 else if eqI op1 32 then
  some 3
 else if eqI op1 33 then
  some 3
 else if eqI op1 34 then
  some 3
 else if eqI op1 41 then
  some 4
 else if eqI op1 42 then
  some 4
 else if eqI op1 43 then
  some 4
 else if eqI op1 44 then
  some 4
 else if eqI op1 46 then
  some 4
 else if eqI op1 47 then
  some 4
 else if eqI op1 48 then
  some 4
 else if eqI op1 49 then
  some 4
 else if eqI op1 50 then
  some 4
 else if eqI op1 61 then
  some 5
 else if eqI op1 62 then
  some 5
 else if eqI op1 63 then
  some 5
 else if eqI op1 64 then
  some 5
 else if eqI op1 65 then
  some 5
 else if eqI op1 66 then
  some 5
 else if eqI op1 71 then
  some 6
 else if eqI op1 72 then
  some 6
 else if eqI op1 73 then
  some 6
 else if eqI op1 74 then
  some 6
 else if eqI op1 81 then
  some 7
 else if eqI op1 82 then
  some 7
 else if eqI op1 83 then
  some 7
 else if eqI op1 84 then
  some 7
 else if eqI op1 85 then
  some 7
 else if eqI op1 86 then
  some 7
 else if eqI op1 87 then
  some 7
 else if eqI op1 88 then
  some 7
 else
  some 0
def zA3(cat1:Int)(t2:zJv):Option Bool:=
 if (eqI cat1 5)&&((eqI t2.Op 43)||(eqI t2.Op 44)) then
  some true
 else
  (if !(eqI cat1 0) then
   (zC6 t2.Op).bind fun v16=>
   some (eqI v16 cat1)
  else
   some false:Option Bool).bind fun b20=>
  some b20
def zDY(op1:Int):Option (zJt):=
 if eqI op1 13 then
  some (zJt.mk true false false)
 else if eqI op1 21 then
  some (zJt.mk true false false)
 else if eqI op1 32 then
  some (zJt.mk true false false)
 else if eqI op1 1 then
  some (zJt.mk false true false)
 else if eqI op1 12 then
  some (zJt.mk false true false)
 else if eqI op1 22 then
  some (zJt.mk false true false)
 else if eqI op1 25 then
  some (zJt.mk false true false)
 else if eqI op1 41 then
  some (zJt.mk false true false)
 else if eqI op1 45 then
  some (zJt.mk false true false)
 else if eqI op1 46 then
  some (zJt.mk false true false)
 else if eqI op1 47 then
  some (zJt.mk false true false)
 else if eqI op1 50 then
  some (zJt.mk false true false)
 else if eqI op1 61 then
  some (zJt.mk false true false)
 else if eqI op1 63 then
  some (zJt.mk false true false)
 else if eqI op1 64 then
  some (zJt.mk false true false)
 else if eqI op1 2 then
  some (zJt.mk false false true)
 else if eqI op1 5 then
  some (zJt.mk false false true)
 else if eqI op1 14 then
  some (zJt.mk false false true)
 else if eqI op1 23 then
  some (zJt.mk false false true)
 else if eqI op1 24 then
  some (zJt.mk false false true)
 else if eqI op1 34 then
  some (zJt.mk false false true)
 else if eqI op1 48 then
  some (zJt.mk false false true)
 else if eqI op1 49 then
  some (zJt.mk false false true)
 else if eqI op1 66 then
  some (zJt.mk false false true)
 else if eqI op1 72 then
  some (zJt.mk false false true)
 else if eqI op1 74 then
  some (zJt.mk false false true)
 else if eqI op1 82 then
  some (zJt.mk false false true)
 else if eqI op1 42 then
  some (zJt.mk false true true)
 else if eqI op1 43 then
  some (zJt.mk false true true)
 else if eqI op1 44 then
  some (zJt.mk false true true)
 else if eqI op1 62 then
  some (zJt.mk false true true)
 else if eqI op1 73 then
  some (zJt.mk true true false)
 else if eqI op1 83 then
  some (zJt.mk true true false)
 else
  some (zJt.mk false false false)
def zCn(s1:List UInt8)(prefix2:List UInt8):Option ((List UInt8)×Bool):=
 (zBC s1 prefix2).bind fun v3=>
 if !v3 then
  some (s1,false)
 else
  (subC s1 (prefix2.length:Int) (s1.length:Int)).bind fun s8=>
  some (s8,true)
def zDE(s1:List UInt8)(prefix2:List UInt8):Option ((List UInt8)×Bool):=
 (zCn s1 prefix2).bind fun v3=>
 some (v3.1,v3.2)
def zDM(fuel:Nat)(s1:List UInt8):Option Bool:=
 (zDE s1 [39]).bind fun v2=>
 (if v2.2 then
  if leI s1.length 24 then
   (zCk fuel v2.1 1).bind fun v8=>
   some v8
  else
   some false
 else
  some false:Option Bool).bind fun b12=>
 some b12
def zEO(fuel:Nat)(s1:List UInt8):Option Bool:=
 (zA0 fuel s1).bind fun v2=>
 some (!v2)
def zAg(fuel:Nat)(s1:(List (List UInt8))):Nat->Nat->Option ((Int) ⊕ (Unit))
 |0,_=>none
 |k7+1,i2=>
  if ltI i2 s1.length then
   (s1[i2]?).bind fun x11=>
   (zEO fuel x11).bind fun v13=>
   if v13 then
    some (.inl ((i2:Nat):Int))
   else
    zAg fuel s1 k7 (i2+1)
  else
   some (.inr ())
def zBi(fuel:Nat)(s1:(List (List UInt8))):Option Int:=
 (zAg fuel s1 fuel 0).bind fun o=>Sum.elim some (fun o3=>
  some (-1)) o
def zBR(fuel:Nat)(s1:(List (List UInt8))):Option Bool:=
 (zBi fuel s1).bind fun v2=>
 some (leI 0 v2)
def zBB(fuel:Nat)(l1:(List (List UInt8)))(lower2:Bool):Option Bool:=
 if (ltI l1.length 1)||(ltI 8 l1.length) then
  some false
 else
  (subC l1 0 ((l1.length:Int)-1)).bind fun l15=>
  (zBR fuel l15).bind fun v19=>
  if v19 then
   some false
  else if lower2 then
   (idx l1 ((l1.length:Int)-1)).bind fun x23=>
   (zAw fuel x23).bind fun v27=>
   some v27
  else
   (idx l1 ((l1.length:Int)-1)).bind fun x30=>
   (zA0 fuel x30).bind fun v34=>
   some v34
def zB3(s1:List UInt8):Nat->Nat->Option ((Bool) ⊕ (Unit))
 |0,_=>none
 |k7+1,i2=>
  if ltI i2 s1.length then
   ((s1[i2]?).bind fun c11=>
   if !(eqI c11.toNat 10) then
    if ltI c11.toNat 32 then
     some true
    else
     some (ltI 126 c11.toNat)
   else
    some false:Option Bool).bind fun b21=>
   if b21 then
    some (.inl false)
   else
    zB3 s1 k7 (i2+1)
  else
   some (.inr ())
def zD6(fuel:Nat)(s1:List UInt8):Option Bool:=
 (zB3 s1 fuel 0).bind fun o=>Sum.elim some (fun o3=>
  some (leI s1.length 16384)) o
def zEb(fuel:Nat)(s1:List UInt8):Option Bool:=
 (zAw fuel s1).bind fun v2=>
 some (!v2)
def zAh(fuel:Nat)(s1:(List (List UInt8))):Nat->Nat->Option ((Int) ⊕ (Unit))
 |0,_=>none
 |k7+1,i2=>
  if ltI i2 s1.length then
   (s1[i2]?).bind fun x11=>
   (zEb fuel x11).bind fun v13=>
   if v13 then
    some (.inl ((i2:Nat):Int))
   else
    zAh fuel s1 k7 (i2+1)
  else
   some (.inr ())
def zBn(fuel:Nat)(s1:(List (List UInt8))):Option Int:=
 (zAh fuel s1 fuel 0).bind fun o=>Sum.elim some (fun o3=>
  some (-1)) o
def zA9(fuel:Nat)(s1:(List (List UInt8))):Option Bool:=
 (zBn fuel s1).bind fun v2=>
 some (leI 0 v2)
def zCF(fuel:Nat)(l1:(List (List UInt8))):Nat->Nat->Option ((Bool) ⊕ (Unit))
 |0,_=>none
 |k7+1,i2=>
  if ltI i2 l1.length then
   (l1[i2]?).bind fun x11=>
   ((zDM fuel x11).bind fun v13=>
   if !v13 then
    some true
   else
    (subC l1 0 ((i2:Nat):Int)).bind fun l18=>
    (zAi fuel l18 x11).bind fun v22=>
    some v22:Option Bool).bind fun b24=>
   if b24 then
    some (.inl false)
   else
    zCF fuel l1 k7 (i2+1)
  else
   some (.inr ())
def zCe(fuel:Nat)(l1:(List (List UInt8))):Option Bool:=
 (zCF fuel l1 fuel 0).bind fun o=>Sum.elim some (fun o3=>
  some (leI l1.length 4)) o
def zBl(fuel:Nat)(t1:zJv)(inWith2:Bool):Option Bool:=
 (zDY t1.Op).bind fun v3=>
 if if !v3.n then (!(eqI t1.N 0))||(if !v3.s then (!(eqS t1.S []))||((!v3.names)&&(ltI 0 t1.Names.length)) else (!v3.names)&&(ltI 0 t1.Names.length)) else if !v3.s then (!(eqS t1.S []))||((!v3.names)&&(ltI 0 t1.Names.length)) else (!v3.names)&&(ltI 0 t1.Names.length) then
  some false
 else if eqI t1.Op 1 then
  (zDM fuel t1.S).bind fun v40=>
  some v40
 else if eqI t1.Op 2 then
  (zBB fuel t1.Names true).bind fun v46=>
  some v46
 else if eqI t1.Op 23 then
  (zBB fuel t1.Names true).bind fun v52=>
  some v52
 else if eqI t1.Op 66 then
  (zBB fuel t1.Names true).bind fun v58=>
  some v58
 else if eqI t1.Op 74 then
  (zBB fuel t1.Names true).bind fun v64=>
  some v64
 else if eqI t1.Op 5 then
  (zBB fuel t1.Names false).bind fun v70=>
  some v70
 else if eqI t1.Op 14 then
  (zBB fuel t1.Names false).bind fun v76=>
  some v76
 else if eqI t1.Op 24 then
  (zBB fuel t1.Names false).bind fun v82=>
  some v82
 else if eqI t1.Op 34 then
  (zBB fuel t1.Names false).bind fun v88=>
  some v88
 else if eqI t1.Op 48 then
  (zBB fuel t1.Names false).bind fun v94=>
  some v94
 else if eqI t1.Op 49 then
  (zBB fuel t1.Names false).bind fun v100=>
  some v100
 else if eqI t1.Op 72 then
  (zBB fuel t1.Names false).bind fun v106=>
  some v106
 else if eqI t1.Op 82 then
  (zBB fuel t1.Names false).bind fun v112=>
  some v112
 else if eqI t1.Op 12 then
  (zAw fuel t1.S).bind fun v118=>
  some v118
 else if eqI t1.Op 41 then
  (zAw fuel t1.S).bind fun v124=>
  some v124
 else if eqI t1.Op 61 then
  (zAw fuel t1.S).bind fun v130=>
  some v130
 else if eqI t1.Op 13 then
  some ((leI (-4503599627370496) t1.N)&&(leI t1.N 4503599627370496))
 else if eqI t1.Op 21 then
  some ((leI 0 t1.N)&&(leI t1.N 4503599627370496))
 else if eqI t1.Op 22 then
  (zD6 fuel t1.S).bind fun v148=>
  some v148
 else if eqI t1.Op 25 then
  (if eqS t1.S [] then
   some true
  else
   (zAw fuel t1.S).bind fun v155=>
   some v155:Option Bool).bind fun b157=>
  some b157
 else if eqI t1.Op 32 then
  some ((leI 1 t1.N)&&(leI t1.N 12))
 else if eqI t1.Op 42 then
  ((zAw fuel t1.S).bind fun v169=>
  if v169 then
   if leI 1 t1.Names.length then
    if leI t1.Names.length 9 then
     (zA9 fuel t1.Names).bind fun v177=>
     some (!v177)
    else
     some false
   else
    some false
  else
   some false:Option Bool).bind fun b182=>
  some b182
 else if eqI t1.Op 43 then
  (if inWith2 then
   if eqS t1.S [] then
    (zCe fuel t1.Names).bind fun v194=>
    some v194
   else
    some false
  else
   (zAw fuel t1.S).bind fun v196=>
   if v196 then
    (zCe fuel t1.Names).bind fun v199=>
    some v199
   else
    some false:Option Bool).bind fun b201=>
  some b201
 else if eqI t1.Op 44 then
  ((zAw fuel t1.S).bind fun v210=>
  if v210 then
   (zCe fuel t1.Names).bind fun v213=>
   some v213
  else
   some false:Option Bool).bind fun b215=>
  some b215
 else if eqI t1.Op 62 then
  ((zAw fuel t1.S).bind fun v223=>
  if v223 then
   (zCe fuel t1.Names).bind fun v226=>
   some v226
  else
   some false:Option Bool).bind fun b228=>
  some b228
 else if eqI t1.Op 45 then
  (zA0 fuel t1.S).bind fun v236=>
  some v236
 else if eqI t1.Op 46 then
  (zA0 fuel t1.S).bind fun v242=>
  some v242
 else if eqI t1.Op 47 then
  (zA0 fuel t1.S).bind fun v248=>
  some v248
 else if eqI t1.Op 50 then
  (zA0 fuel t1.S).bind fun v254=>
  some v254
 else if eqI t1.Op 63 then
  (zA0 fuel t1.S).bind fun v260=>
  some v260
 else if eqI t1.Op 64 then
  (zA0 fuel t1.S).bind fun v266=>
  some v266
 else if eqI t1.Op 73 then
  ((zA0 fuel t1.S).bind fun v272=>
  if v272 then
   if eqI t1.N 0 then
    some true
   else
    some (eqI t1.N 1)
  else
   some false:Option Bool).bind fun b278=>
  some b278
 else if eqI t1.Op 83 then
  ((zA0 fuel t1.S).bind fun v286=>
  if v286 then
   if eqI t1.N 0 then
    some true
   else
    some (eqI t1.N 1)
  else
   some false:Option Bool).bind fun b292=>
  some b292
 else
  some true
def zEP(x1:zJv)(c2:Int):Option Bool:=
 (zA3 c2 x1).bind fun v3=>
 some (!v3)
def zAd(s1:List zJv)(c2:Int):Nat->Nat->Option ((Int) ⊕ (Unit))
 |0,_=>none
 |k8+1,i3=>
  if ltI i3 s1.length then
   (s1[i3]?).bind fun x12=>
   (zEP x12 c2).bind fun v14=>
   if v14 then
    some (.inl ((i3:Nat):Int))
   else
    zAd s1 c2 k8 (i3+1)
  else
   some (.inr ())
def zBa(fuel:Nat)(s1:List zJv)(c2:Int):Option Int:=
 (zAd s1 c2 fuel 0).bind fun o=>Sum.elim some (fun o4=>
  some (-1)) o
def zAq(fuel:Nat)(s1:List zJv)(c2:Int):Option Bool:=
 (zBa fuel s1 c2).bind fun v3=>
 some (leI 0 v3)
def zBc(fuel:Nat)(l1:List zJv)(cat2:Int)(least3:Int)(most4:Int):Option Bool:=
 (if leI least3 l1.length then
  if leI l1.length most4 then
   (zAq fuel l1 cat2).bind fun v10=>
   some (!v10)
  else
   some false
 else
  some false:Option Bool).bind fun b15=>
 some b15
def zB4(t1:zJv)(cats2:List Int):Nat->Nat->Option ((Bool) ⊕ (Unit))
 |0,_=>none
 |k13+1,i8=>
  if ltI i8 cats2.length then
   (cats2[i8]?).bind fun x17=>
   (t1.L[i8]?).bind fun x19=>
   (zA3 x17 x19).bind fun v21=>
   if !v21 then
    some (.inl false)
   else
    zB4 t1 cats2 k13 (i8+1)
  else
   some (.inr ())
def zAR(fuel:Nat)(t1:zJv)(cats2:List Int):Option Bool:=
 if !(eqI t1.L.length cats2.length) then
  some false
 else
  (zB4 t1 cats2 fuel 0).bind fun o=>Sum.elim some (fun o9=>
   some true) o
def zBm(s1:List Int)(v2:Int):Nat->Nat->Option ((Int) ⊕ (Unit))
 |0,_=>none
 |k8+1,i3=>
  if ltI i3 s1.length then
   (s1[i3]?).bind fun x12=>
   if eqI v2 x12 then
    some (.inl ((i3:Nat):Int))
   else
    zBm s1 v2 k8 (i3+1)
  else
   some (.inr ())
def zDP(fuel:Nat)(s1:List Int)(v2:Int):Option Int:=
 (zBm s1 v2 fuel 0).bind fun o=>Sum.elim some (fun o4=>
  some (-1)) o
def zB2(fuel:Nat)(s1:List Int)(v2:Int):Option Bool:=
 (zDP fuel s1 v2).bind fun v3=>
 some (leI 0 v3)
def zDX(fuel:Nat)(x1:zJv)(c2:List Int):Option Bool:=
 (zB2 fuel c2 x1.Op).bind fun v3=>
 some (!v3)
def zAc(fuel:Nat)(s1:List zJv)(c2:List Int):Nat->Nat->Option ((Int) ⊕ (Unit))
 |0,_=>none
 |k8+1,i3=>
  if ltI i3 s1.length then
   (s1[i3]?).bind fun x12=>
   (zDX fuel x12 c2).bind fun v14=>
   if v14 then
    some (.inl ((i3:Nat):Int))
   else
    zAc fuel s1 c2 k8 (i3+1)
  else
   some (.inr ())
def zBZ(fuel:Nat)(s1:List zJv)(c2:List Int):Option Int:=
 (zAc fuel s1 c2 fuel 0).bind fun o=>Sum.elim some (fun o4=>
  some (-1)) o
def zA4(fuel:Nat)(s1:List zJv)(c2:List Int):Option Bool:=
 (zBZ fuel s1 c2).bind fun v3=>
 some (leI 0 v3)
def zBv(fuel:Nat)(l1:List zJv)(ops2:List Int):Option Bool:=
 (zA4 fuel l1 ops2).bind fun v3=>
 some (!v3)
def zDf(y1:zJv)(w2:zJv):Option Bool:=
 some (eqS w2.S y1.S)
def zAX(s1:List zJv)(w2:zJv):Nat->Nat->Option ((Int) ⊕ (Unit))
 |0,_=>none
 |k8+1,i3=>
  if ltI i3 s1.length then
   (s1[i3]?).bind fun x12=>
   (zDf x12 w2).bind fun v14=>
   if v14 then
    some (.inl ((i3:Nat):Int))
   else
    zAX s1 w2 k8 (i3+1)
  else
   some (.inr ())
def zBQ(fuel:Nat)(s1:List zJv)(w2:zJv):Option Int:=
 (zAX s1 w2 fuel 0).bind fun o=>Sum.elim some (fun o4=>
  some (-1)) o
def zAY(fuel:Nat)(s1:List zJv)(w2:zJv):Option Bool:=
 (zBQ fuel s1 w2).bind fun v3=>
 some (leI 0 v3)
def zCG(fuel:Nat)(l1:List zJv):Nat->Nat->Option ((Bool) ⊕ (Unit))
 |0,_=>none
 |k7+1,i2=>
  if ltI i2 l1.length then
   (l1[i2]?).bind fun x11=>
   (subC l1 0 ((i2:Nat):Int)).bind fun l13=>
   (zAY fuel l13 x11).bind fun v17=>
   if v17 then
    some (.inl false)
   else
    zCG fuel l1 k7 (i2+1)
  else
   some (.inr ())
def zDZ(fuel:Nat)(l1:List zJv):Option Bool:=
 (zCG fuel l1 fuel 0).bind fun o=>Sum.elim some (fun o3=>
  some true) o
def zB0(fuel:Nat)(t1:zJv):Option Bool:=
 if eqI t1.Op 1 then
  some (eqI t1.L.length 0)
 else if eqI t1.Op 5 then
  some (eqI t1.L.length 0)
 else if eqI t1.Op 11 then
  some (eqI t1.L.length 0)
 else if eqI t1.Op 12 then
  some (eqI t1.L.length 0)
 else if eqI t1.Op 13 then
  some (eqI t1.L.length 0)
 else if eqI t1.Op 21 then
  some (eqI t1.L.length 0)
 else if eqI t1.Op 22 then
  some (eqI t1.L.length 0)
 else if eqI t1.Op 23 then
  some (eqI t1.L.length 0)
 else if eqI t1.Op 24 then
  some (eqI t1.L.length 0)
 else if eqI t1.Op 48 then
  some (eqI t1.L.length 0)
 else if eqI t1.Op 49 then
  some (eqI t1.L.length 0)
 else if eqI t1.Op 62 then
  some (eqI t1.L.length 0)
 else if eqI t1.Op 72 then
  some (eqI t1.L.length 0)
 else if eqI t1.Op 82 then
  some (eqI t1.L.length 0)
 else if eqI t1.Op 2 then
  (zBc fuel t1.L 1 0 4).bind fun v46=>
  some v46
 else if eqI t1.Op 3 then
  (some [1,1]).bind fun l52=>
  (zAR fuel t1 l52).bind fun v56=>
  some v56
 else if eqI t1.Op 4 then
  (zBc fuel t1.L 1 2 9).bind fun v62=>
  some v62
 else if eqI t1.Op 14 then
  (zBc fuel t1.L 2 0 1).bind fun v68=>
  some v68
 else if eqI t1.Op 15 then
  (if !(eqI t1.L.length 1) then
   (zBc fuel t1.L 2 0 9).bind fun v77=>
   some v77
  else
   some false:Option Bool).bind fun b81=>
  some b81
 else if eqI t1.Op 25 then
  (zAR fuel t1 [3]).bind fun v87=>
  some v87
 else if eqI t1.Op 41 then
  (zAR fuel t1 [3]).bind fun v93=>
  some v93
 else if eqI t1.Op 42 then
  (zAR fuel t1 [3]).bind fun v99=>
  some v99
 else if eqI t1.Op 26 then
  (some [3,3]).bind fun l105=>
  (zAR fuel t1 l105).bind fun v109=>
  some v109
 else if eqI t1.Op 27 then
  (if !(eqI t1.L.length 1) then
   (zBc fuel t1.L 3 0 9).bind fun v118=>
   some v118
  else
   some false:Option Bool).bind fun b122=>
  some b122
 else if eqI t1.Op 28 then
  (some [3,3,3]).bind fun l128=>
  (zAR fuel t1 l128).bind fun v132=>
  some v132
 else if eqI t1.Op 29 then
  (if leI 2 t1.L.length then
   (t1.L[0]?).bind fun x141=>
   (zA3 3 x141).bind fun v143=>
   if v143 then
    (subC t1.L 1 (t1.L.length:Int)).bind fun l146=>
    (zBv fuel l146 [30]).bind fun v150=>
    some v150
   else
    some false
  else
   some false:Option Bool).bind fun b154=>
  some b154
 else if eqI t1.Op 30 then
  (some [2,3]).bind fun l162=>
  (zAR fuel t1 l162).bind fun v166=>
  some v166
 else if eqI t1.Op 31 then
  (if leI 1 t1.L.length then
   (idx t1.L ((t1.L.length:Int)-1)).bind fun x176=>
   (zA3 3 x176).bind fun v180=>
   if v180 then
    (subC t1.L 0 ((t1.L.length:Int)-1)).bind fun l184=>
    (some [41,42,50]).bind fun l188=>
    (zBv fuel l184 l188).bind fun v192=>
    some v192
   else
    some false
  else
   some false:Option Bool).bind fun b196=>
  some b196
 else if eqI t1.Op 32 then
  if eqI t1.N 12 then
   (zAR fuel t1 [3]).bind fun v206=>
   some v206
  else
   (some [3,3]).bind fun l210=>
   (zAR fuel t1 l210).bind fun v214=>
   some v214
 else if eqI t1.Op 33 then
  (some [3,1]).bind fun l220=>
  (zAR fuel t1 l220).bind fun v224=>
  some v224
 else if eqI t1.Op 34 then
  (if eqI t1.L.length 1 then
   (zBv fuel t1.L [72]).bind fun v232=>
   some v232
  else
   some false:Option Bool).bind fun b235=>
  some b235
 else if eqI t1.Op 43 then
  (zAR fuel t1 [1]).bind fun v241=>
  some v241
 else if eqI t1.Op 61 then
  (zAR fuel t1 [1]).bind fun v247=>
  some v247
 else if eqI t1.Op 44 then
  (if leI 1 t1.L.length then
   (zBv fuel t1.L [45]).bind fun v256=>
   if v256 then
    (zDZ fuel t1.L).bind fun v259=>
    some v259
   else
    some false
  else
   some false:Option Bool).bind fun b263=>
  some b263
 else if eqI t1.Op 45 then
  (zBc fuel t1.L 1 0 1).bind fun v271=>
  some v271
 else if eqI t1.Op 46 then
  (zAR fuel t1 [7]).bind fun v277=>
  some v277
 else if eqI t1.Op 47 then
  (zAR fuel t1 [6]).bind fun v283=>
  some v283
 else if eqI t1.Op 63 then
  (zAR fuel t1 [6]).bind fun v289=>
  some v289
 else if eqI t1.Op 64 then
  (zAR fuel t1 [6]).bind fun v295=>
  some v295
 else if eqI t1.Op 65 then
  (zAR fuel t1 [6]).bind fun v301=>
  some v301
 else if eqI t1.Op 50 then
  (if eqI t1.L.length 2 then
   (t1.L[0]?).bind fun x309=>
   (zA3 3 x309).bind fun v311=>
   if v311 then
    (subC t1.L 1 (t1.L.length:Int)).bind fun l314=>
    (zBv fuel l314 [72]).bind fun v318=>
    some v318
   else
    some false
  else
   some false:Option Bool).bind fun b321=>
  some b321
 else if eqI t1.Op 88 then
  (if eqI t1.L.length 2 then
   (t1.L[0]?).bind fun x331=>
   (zA3 3 x331).bind fun v333=>
   if v333 then
    (subC t1.L 1 (t1.L.length:Int)).bind fun l336=>
    (zBv fuel l336 [72]).bind fun v340=>
    some v340
   else
    some false
  else
   some false:Option Bool).bind fun b343=>
  some b343
 else if eqI t1.Op 66 then
  (if eqI t1.L.length 1 then
   (zBv fuel t1.L [2]).bind fun v353=>
   if v353 then
    (t1.L[0]?).bind fun x356=>
    some (eqI x356.L.length 0)
   else
    some false
  else
   some false:Option Bool).bind fun b359=>
  some b359
 else if eqI t1.Op 71 then
  (zBc fuel t1.L 5 0 (t1.L.length:Int)).bind fun v366=>
  some v366
 else if eqI t1.Op 73 then
  (some [6,6]).bind fun l372=>
  (zAR fuel t1 l372).bind fun v376=>
  some v376
 else if eqI t1.Op 74 then
  (if eqI t1.L.length 2 then
   (t1.L[0]?).bind fun x384=>
   (zA3 6 x384).bind fun v386=>
   if v386 then
    (subC t1.L 1 (t1.L.length:Int)).bind fun l389=>
    (zBv fuel l389 [43]).bind fun v393=>
    some v393
   else
    some false
  else
   some false:Option Bool).bind fun b396=>
  some b396
 else if eqI t1.Op 81 then
  (zBc fuel t1.L 4 0 (t1.L.length:Int)).bind fun v404=>
  some v404
 else if eqI t1.Op 83 then
  (some [6,7]).bind fun l410=>
  (zAR fuel t1 l410).bind fun v414=>
  some v414
 else if eqI t1.Op 84 then
  (some [7,7]).bind fun l420=>
  (zAR fuel t1 l420).bind fun v424=>
  some v424
 else if eqI t1.Op 85 then
  (some [7,6]).bind fun l430=>
  (zAR fuel t1 l430).bind fun v434=>
  some v434
 else if eqI t1.Op 86 then
  (some [7,6]).bind fun l440=>
  (zAR fuel t1 l440).bind fun v444=>
  some v444
 else if eqI t1.Op 87 then
  (if leI 1 t1.L.length then
   (idx t1.L ((t1.L.length:Int)-1)).bind fun x454=>
   (zA3 7 x454).bind fun v458=>
   if v458 then
    (subC t1.L 0 ((t1.L.length:Int)-1)).bind fun l462=>
    (zBc fuel l462 4 0 (t1.L.length:Int)).bind fun v466=>
    some v466
   else
    some false
  else
   some false:Option Bool).bind fun b470=>
  some b470
 else
  some false
def zAK(F_syntax_formed_1_1:zJv->Int->zJv->Int->Option (Bool×Int))(s1:List zJv)(c2:Int)(w3:zJv):Nat->Int->Nat->Option ((Int×Int) ⊕ (Int))
 |0,_,_=>none
 |k11+1,a5,i6=>
  if ltI i6 s1.length then
   (s1[i6]?).bind fun x15=>
   (F_syntax_formed_1_1 x15 c2 w3 a5).bind fun v17=>
   if v17.1 then
    some (.inl (((i6:Nat):Int),v17.2))
   else
    zAK F_syntax_formed_1_1 s1 c2 w3 k11 v17.2 (i6+1)
  else
   some (.inr a5)
mutual
def zBW:Nat->zJv->Int->zJv->Int->Option (Bool×Int)
 |0,_,_,_,_=>none
 |fuel+1,x1,c2,w3,c4=>
  (chk .i64 (c2+1)).bind fun n5=>
  ((zBG fuel) x1 n5 (eqI w3.Op 74) c4).bind fun v10=>
  some (!v10.1,v10.2)
def zAz:Nat->(List zJv)->Int->zJv->Int->Option (Int×Int)
 |0,_,_,_,_=>none
 |fuel+1,s1,c2,w3,c4=>
  (zAK (zBW fuel) s1 c2 w3 fuel c4 0).bind fun o=>Sum.elim some (fun o7=>
   some ((-1),o7)) o
def zAu:Nat->(List zJv)->Int->zJv->Int->Option (Bool×Int)
 |0,_,_,_,_=>none
 |fuel+1,s1,c2,w3,c4=>
  ((zAz fuel) s1 c2 w3 c4).bind fun v5=>
  some (leI 0 v5.1,v5.2)
def zBG:Nat->zJv->Int->Bool->Int->Option (Bool×Int)
 |0,_,_,_,_=>none
 |fuel+1,t1,depth2,inWith3,c4=>
  (chk .i64 (c4+1)).bind fun n5=>
  (if ltI 20000 n5 then
   some true
  else if ltI 400 depth2 then
   some true
  else
   (zBl fuel t1 inWith3).bind fun v16=>
   if !v16 then
    some true
   else
    (zB0 fuel t1).bind fun v21=>
    some (!v21):Option Bool).bind fun b23=>
  if b23 then
   some (false,n5)
  else
   ((zAu fuel) t1.L depth2 t1 n5).bind fun v26=>
   some (!v26.1,v26.2)
end
def zEQ(fuel:Nat)(t1:zJv):Option Bool:=
 (zBG fuel t1 1 false 0).bind fun v2=>
 some v2.1
def zCL(fuel:Nat)(cat1:Int)(t2:zJv):Option Bool:=
 ((zA3 cat1 t2).bind fun v3=>
 if v3 then
  (zEQ fuel t2).bind fun v6=>
  some v6
 else
  some false:Option Bool).bind fun b8=>
 some b8
def zAk(fuel:Nat)(cat1:Int)(s2:List UInt8):Option (zJv×zJw×Int):=
 (zC4 fuel s2).bind fun v3=>
 if !(eqI v3.2.2 0) then
  some ((zJv.mk 0 0 [] [] []),v3.2.1,v3.2.2)
 else
  (zCP fuel cat1 (zJr.mk v3.1 0)).bind fun v10=>
  (if !v10.2.1 then
   some true
  else
   (zAJ 8 v10.2.2).bind fun v15=>
   some (!v15):Option Bool).bind fun b17=>
  if b17 then
   (idx v10.2.2.l v10.2.2.at_).bind fun x20=>
   (zBT v10.2.2).bind fun v24=>
   some ((zJv.mk 0 0 [] [] []),x20.At,v24)
  else
   (zCL fuel cat1 v10.1).bind fun v27=>
   if !v27 then
    some ((zJv.mk 0 0 [] [] []),(zJw.mk 0 0),5)
   else
    some (v10.1,(zJw.mk 0 0),0)
def zCU(fuel:Nat)(s1:List UInt8):Option (zJv×zJw×Int):=
 (zAk fuel 2 s1).bind fun v2=>
 some (v2.1,v2.2.1,v2.2.2)
def zBM(F_law20_PatternBack_1:zJx->zJv->Option Bool)(p1:zJx)(t2:zJv):Nat->Nat->Option ((Bool) ⊕ (Unit))
 |0,_=>none
 |k20+1,i15=>
  if ltI i15 p1.L.length then
   (p1.L[i15]?).bind fun x24=>
   (t2.L[i15]?).bind fun x26=>
   (F_law20_PatternBack_1 x24 x26).bind fun v28=>
   if !v28 then
    some (.inl false)
   else
    zBM F_law20_PatternBack_1 p1 t2 k20 (i15+1)
  else
   some (.inr ())
def zBL(F_law20_PatternBack_1:zJx->zJv->Option Bool)(p1:zJx)(t2:zJv):Nat->Nat->Option ((Bool) ⊕ (Unit))
 |0,_=>none
 |k57+1,i52=>
  if ltI i52 p1.L.length then
   (p1.L[i52]?).bind fun x61=>
   (t2.L[i52]?).bind fun x63=>
   (F_law20_PatternBack_1 x61 x63).bind fun v65=>
   if !v65 then
    some (.inl false)
   else
    zBL F_law20_PatternBack_1 p1 t2 k57 (i52+1)
  else
   some (.inr ())
def zBK(F_law20_PatternBack_1:zJx->zJv->Option Bool)(p1:zJx)(t2:zJv):Nat->Nat->Option ((Bool) ⊕ (Unit))
 |0,_=>none
 |k95+1,i90=>
  if ltI i90 p1.L.length then
   (p1.L[i90]?).bind fun x99=>
   (t2.L[i90]?).bind fun x101=>
   (F_law20_PatternBack_1 x99 x101).bind fun v103=>
   if !v103 then
    some (.inl false)
   else
    zBK F_law20_PatternBack_1 p1 t2 k95 (i90+1)
  else
   some (.inr ())
def zBJ(F_law20_PatternBack_1:zJx->zJv->Option Bool)(p1:zJx)(t2:zJv):Nat->Nat->Option ((Bool) ⊕ (Unit))
 |0,_=>none
 |k136+1,i131=>
  if ltI i131 p1.L.length then
   (p1.L[i131]?).bind fun x140=>
   (t2.L[i131]?).bind fun x142=>
   (F_law20_PatternBack_1 x140 x142).bind fun v144=>
   if !v144 then
    some (.inl false)
   else
    zBJ F_law20_PatternBack_1 p1 t2 k136 (i131+1)
  else
   some (.inr ())
def zBI(F_law20_PatternBack_1:zJx->zJv->Option Bool)(p1:zJx)(t2:zJv):Nat->Nat->Option ((Bool) ⊕ (Unit))
 |0,_=>none
 |k165+1,i160=>
  if ltI i160 p1.L.length then
   (p1.L[i160]?).bind fun x169=>
   (t2.L[i160]?).bind fun x171=>
   (F_law20_PatternBack_1 x169 x171).bind fun v173=>
   if !v173 then
    some (.inl false)
   else
    zBI F_law20_PatternBack_1 p1 t2 k165 (i160+1)
  else
   some (.inr ())
def zAO:Nat->zJx->zJv->Option Bool
 |0,_,_=>none
 |fuel+1,p1,t2=>
  if !(eqI p1.L.length t2.L.length) then
   some false
  else if eqI p1.Op 1 then
   if !(eqI t2.Op 11) then
    some false
   else
    (zBM (zAO fuel) p1 t2 fuel 0).bind fun o=>Sum.elim some (fun o16=>
     some true) o
  else if eqI p1.Op 2 then
   if (!(eqI t2.Op 12))||(!(eqS t2.S p1.S)) then
    some false
   else
    (zBL (zAO fuel) p1 t2 fuel 0).bind fun o=>Sum.elim some (fun o53=>
     some true) o
  else if eqI p1.Op 3 then
   if (!(eqI t2.Op 13))||(!(eqI t2.N p1.N)) then
    some false
   else
    (zBK (zAO fuel) p1 t2 fuel 0).bind fun o=>Sum.elim some (fun o91=>
     some true) o
  else if eqI p1.Op 4 then
   (if !(eqI t2.Op 14) then
    some true
   else if !(eqI t2.Names.length 1) then
    some true
   else
    (t2.Names[0]?).bind fun x126=>
    some (!(eqS x126 p1.S)):Option Bool).bind fun b128=>
   if b128 then
    some false
   else
    (zBJ (zAO fuel) p1 t2 fuel 0).bind fun o=>Sum.elim some (fun o132=>
     some true) o
  else if !(eqI t2.Op 15) then
   some false
  else
   (zBI (zAO fuel) p1 t2 fuel 0).bind fun o=>Sum.elim some (fun o161=>
    some true) o
def zCV(fuel:Nat)(p1:zJx):Option Bool:=
 (zFq).bind fun v2=>
 if !v2 then
  some false
 else
  (zE6 fuel p1).bind fun v7=>
  if v7 then
   some true
  else
   (zD9 fuel p1).bind fun v10=>
   if !(eqI v10.2 0) then
    some (eqS v10.1 [])
   else
    (zCU fuel v10.1).bind fun v17=>
    (if eqI v17.2.2 0 then
     (zAO fuel p1 v17.1).bind fun v21=>
     some v21
    else
     some false:Option Bool).bind fun b24=>
    some b24
def zFp(s t:List UInt8):Option (List UInt8×List UInt8×Bool):=if s.length<4294967281 then some (Lib.cut s t) else none
end Go.Proofs.YtbnahfdbjaohkaaGreatDoor
