/- For every input the law PatternTypes returns true. Part 8 of 21. No condition. -/
import Derived.Test.YtencdekdgajgfaaGreatDoorPTg
import Derived.Lib.Bytealg
import Derived.Lib.Join
import Derived.Lib.Fields
import Derived.Lib.ItoaNum
import Derived.Lib.AtoiAll
set_option linter.unusedVariables false
set_option linter.unnecessarySimpa false
set_option linter.unusedSimpArgs false
set_option maxRecDepth 100000
set_option maxHeartbeats 1000000
namespace Go.Proofs.YtencdekdgajgfaaGreatDoor
open Go Go.Abs
def zFO:Option Bool:=some true
def zDa(F_law20_big_1:zLn->Int->Int->Option Int)(p1:zLn)(depth2:Int):Nat->Int->Nat->Option Int
 |0,_,_=>none
 |k23+1,a18,i19=>
  if (ltI i19 p1.L.length)&&(leI a18 200) then
   (p1.L[i19]?).bind fun x35=>
   (chk .i64 (depth2+1)).bind fun n37=>
   (F_law20_big_1 x35 n37 a18).bind fun v42=>
   zDa F_law20_big_1 p1 depth2 k23 v42 (i19+1)
  else
   some a18
def zCU(F_law20_big_1:zLn->Int->Int->Option Int)(p1:zLn)(depth2:Int):Nat->Int->Nat->Option Int
 |0,_,_=>none
 |k61+1,a56,i57=>
  if (ltI i57 p1.L.length)&&(leI a56 200) then
   (p1.L[i57]?).bind fun x70=>
   (chk .i64 (depth2+1)).bind fun n72=>
   (F_law20_big_1 x70 n72 a56).bind fun v77=>
   zCU F_law20_big_1 p1 depth2 k61 v77 (i57+1)
  else
   some a56
def zB8:Nat->zLn->Int->Int->Option Int
 |0,_,_,_=>none
 |fuel+1,p1,depth2,c3=>
  (chk .i64 (c3+1)).bind fun n4=>
  if (ltI 50 depth2)||((ltI 20 p1.L.length)||(ltI 200 p1.S.length)) then
   (zDa (zB8 fuel) p1 depth2 fuel 1000 0).bind fun o20=>
   some o20
  else
   (zCU (zB8 fuel) p1 depth2 fuel n4 0).bind fun o58=>
   some o58
def zGM(fuel:Nat)(p1:zLn):Option Bool:=
 (zB8 fuel p1 1 0).bind fun v2=>
 some (ltI 200 v2)
def zD6(s1:List UInt8):Option Bool:=
 some (ltI 100 s1.length)
def zAb(s1:(List (List UInt8))):Nat->Nat->Option ((Int) ⊕ (Unit))
 |0,_=>none
 |k7+1,i2=>
  if ltI i2 s1.length then
   (s1[i2]?).bind fun x11=>
   (zD6 x11).bind fun v13=>
   if v13 then
    some (.inl ((i2:Nat):Int))
   else
    zAb s1 k7 (i2+1)
  else
   some (.inr ())
def zBL(fuel:Nat)(s1:(List (List UInt8))):Option Int:=
 (zAb s1 fuel 0).bind fun o=>Sum.elim some (fun o3=>
  some (-1)) o
def zAr(fuel:Nat)(s1:(List (List UInt8))):Option Bool:=
 (zBL fuel s1).bind fun v2=>
 some (leI 0 v2)
def zCh(F_law20_wide_1:zLl->Int->Int->Option Int)(k1:zLl)(depth2:Int):Nat->Int->Nat->Option Int
 |0,_,_=>none
 |k18+1,a13,i14=>
  if (ltI i14 k1.L.length)&&(leI a13 400) then
   (k1.L[i14]?).bind fun x30=>
   (chk .i64 (depth2+1)).bind fun n32=>
   (F_law20_wide_1 x30 n32 a13).bind fun v37=>
   zCh F_law20_wide_1 k1 depth2 k18 v37 (i14+1)
  else
   some a13
def zCg(F_law20_wide_1:zLl->Int->Int->Option Int)(k1:zLl)(depth2:Int):Nat->Int->Nat->Option Int
 |0,_,_=>none
 |k52+1,a47,i48=>
  if (ltI i48 k1.L.length)&&(leI a47 400) then
   (k1.L[i48]?).bind fun x61=>
   (chk .i64 (depth2+1)).bind fun n63=>
   (F_law20_wide_1 x61 n63 a47).bind fun v68=>
   zCg F_law20_wide_1 k1 depth2 k52 v68 (i48+1)
  else
   some a47
def zBM:Nat->zLl->Int->Int->Option Int
 |0,_,_,_=>none
 |fuel+1,k1,depth2,c3=>
  (chk .i64 (c3+1)).bind fun n4=>
  if (ltI 20 depth2)||(ltI 10 k1.L.length) then
   (zCh (zBM fuel) k1 depth2 fuel 1000 0).bind fun o15=>
   some o15
  else
   (zCg (zBM fuel) k1 depth2 fuel n4 0).bind fun o49=>
   some o49
def zCf(F_law20_wide_2:zLm->Int->Int->Option Int)(c1:zLm)(depth2:Int):Nat->Int->Nat->Option Int
 |0,_,_=>none
 |k39+1,a34,i35=>
  if (ltI i35 c1.L.length)&&(leI a34 400) then
   (c1.L[i35]?).bind fun x51=>
   (chk .i64 (depth2+1)).bind fun n53=>
   (F_law20_wide_2 x51 n53 a34).bind fun v58=>
   zCf F_law20_wide_2 c1 depth2 k39 v58 (i35+1)
  else
   some a34
def zCM:Nat->zLm->Int->Int->Option Int
 |0,_,_,_=>none
 |fuel+1,c1,depth2,c3=>
  (chk .i64 (c3+1)).bind fun n4=>
  (if ltI 50 depth2 then
   some true
  else if ltI 30 c1.L.length then
   some true
  else if ltI 30 c1.Names.length then
   some true
  else if ltI 100 c1.S.length then
   some true
  else
   (zAr fuel c1.Names).bind fun v27=>
   some v27:Option Bool).bind fun b29=>
  if b29 then
   some 1000
  else
   (zBM fuel c1.Kind 1 n4).bind fun v32=>
   (zCf (zCM fuel) c1 depth2 fuel v32 0).bind fun o36=>
   some o36
def zEW(fuel:Nat)(c1:zLm):Option Bool:=
 (zCM fuel c1 1 0).bind fun v2=>
 some (ltI 400 v2)
def zD4(c1:UInt8):Option Bool:=
 some ((leI 97 c1.toNat)&&(leI c1.toNat 122))
def zDQ(c1:UInt8):Option Bool:=
 some ((leI 65 c1.toNat)&&(leI c1.toNat 90))
def zD5(c1:UInt8):Option Bool:=
 some ((leI 48 c1.toNat)&&(leI c1.toNat 57))
def zDE(c1:UInt8):Option Bool:=
 ((zD4 c1).bind fun v2=>
 if v2 then
  some true
 else
  (zDQ c1).bind fun v5=>
  if v5 then
   some true
  else
   (zD5 c1).bind fun v8=>
   if v8 then
    some true
   else
    some (eqI c1.toNat 95):Option Bool).bind fun b11=>
 some b11
def zCT(s1:List UInt8):Nat->Nat->Option ((Bool) ⊕ (Unit))
 |0,_=>none
 |k7+1,i2=>
  if ltI i2 s1.length then
   (s1[i2]?).bind fun c11=>
   (zDE c11).bind fun v13=>
   if !v13 then
    some (.inl false)
   else
    zCT s1 k7 (i2+1)
  else
   some (.inr ())
def zFN(fuel:Nat)(s1:List UInt8):Option Bool:=
 (zCT s1 fuel 0).bind fun o=>Sum.elim some (fun o3=>
  some true) o
def zE8(fuel:Nat)(s1:List UInt8):Option Bool:=
 (if leI 1 s1.length then
  if leI s1.length 24 then
   (zFN fuel s1).bind fun v7=>
   some v7
  else
   some false
 else
  some false:Option Bool).bind fun b12=>
 some b12
def zFq:Option ((List (List UInt8))):=
 (some [[97,110,100,97,108,115,111],[99,97,115,101],[100,97,116,97],[100,105,118],[101,108,115,101],[101,110,100],[102,110],[102,117,110],[102,117,110,99,116,111,114],[103,101,110,101,114,97,116,105,118,101],[105,102],[105,109,112,111,114,116],[105,110],[105,110,99,108,117,100,101],[108,101,116],[109,111,100],[109,111,100,117,108,101],[111,102],[111,112,101,110],[111,114,101,108,115,101],[112,97,99,107],[115,104,97,114,105,110,103],[115,105,103],[115,105,103,110,97,116,117,114,101],[115,116,114,117,99,116],[115,116,114,117,99,116,117,114,101],[116,104,101,110],[116,121,112,101],[117,110,112,97,99,107],[118,97,108],[119,105,116,104]]).bind fun l1=>
 some l1
def zBp(l1:(List (List UInt8)))(s2:List UInt8):Nat->Nat->Option ((Int) ⊕ (Unit))
 |0,_=>none
 |k8+1,i3=>
  if ltI i3 l1.length then
   (l1[i3]?).bind fun x12=>
   if eqS x12 s2 then
    some (.inl ((i3:Nat):Int))
   else
    zBp l1 s2 k8 (i3+1)
  else
   some (.inr ())
def zCe(fuel:Nat)(l1:(List (List UInt8)))(s2:List UInt8):Option Int:=
 (zBp l1 s2 fuel 0).bind fun o=>Sum.elim some (fun o4=>
  some (-1)) o
def zEK(fuel:Nat)(s1:List UInt8):Option Bool:=
 ((zE8 fuel s1).bind fun v2=>
 if v2 then
  (s1[0]?).bind fun c5=>
  (zD4 c5).bind fun v7=>
  if v7 then
   (zFq).bind fun v10=>
   (zCe fuel v10 s1).bind fun v12=>
   some (ltI v12 0)
  else
   some false
 else
  some false:Option Bool).bind fun b14=>
 some b14
def zDP(fuel:Nat)(s1:List UInt8):Option Bool:=
 ((zE8 fuel s1).bind fun v2=>
 if v2 then
  (s1[0]?).bind fun c5=>
  (zDQ c5).bind fun v7=>
  some v7
 else
  some false:Option Bool).bind fun b9=>
 some b9
def zFl(fuel:Nat)(p1:zLn):Option Bool:=
 if if !(eqI p1.N 0) then (!(eqI p1.Op 3))||((!(eqS p1.S []))&&((!(eqI p1.Op 2))&&(!(eqI p1.Op 4)))) else (!(eqS p1.S []))&&((!(eqI p1.Op 2))&&(!(eqI p1.Op 4))) then
  some false
 else if eqI p1.Op 1 then
  some (eqI p1.L.length 0)
 else if eqI p1.Op 2 then
  ((zEK fuel p1.S).bind fun v34=>
  if v34 then
   some (eqI p1.L.length 0)
  else
   some false:Option Bool).bind fun b37=>
  some b37
 else if eqI p1.Op 3 then
  some ((leI (-4503599627370496) p1.N)&&((leI p1.N 4503599627370496)&&(eqI p1.L.length 0)))
 else if eqI p1.Op 4 then
  ((zDP fuel p1.S).bind fun v53=>
  if v53 then
   some (leI p1.L.length 1)
  else
   some false:Option Bool).bind fun b56=>
  some b56
 else if eqI p1.Op 5 then
  some ((!(eqI p1.L.length 1))&&(leI p1.L.length 9))
 else
  some false
def zBx(F_ref20_count:zLn->Int->Int->Option Int)(p1:zLn)(depth3:Int):Nat->Int->Nat->Option Int
 |0,_,_=>none
 |k25+1,left20,i21=>
  if (ltI i21 p1.L.length)&&(leI 0 left20) then
   (p1.L[i21]?).bind fun x37=>
   (chk .i64 (depth3-1)).bind fun n39=>
   (F_ref20_count x37 left20 n39).bind fun v44=>
   zBx F_ref20_count p1 depth3 k25 v44 (i21+1)
  else
   some left20
def zCn:Nat->zLn->Int->Int->Option Int
 |0,_,_,_=>none
 |fuel+1,p1,left2,depth3=>
  (if ltI left2 1 then
   some true
  else if ltI depth3 1 then
   some true
  else
   (zFl fuel p1).bind fun v10=>
   some (!v10):Option Bool).bind fun b12=>
  if b12 then
   some (-1)
  else
   (chk .i64 (left2-1)).bind fun n15=>
   (zBx (zCn fuel) p1 depth3 fuel n15 0).bind fun o22=>
   some o22
def zCm(F_ref20_vars:(List (List UInt8))->zLn->Option ((List (List UInt8))))(p2:zLn):Nat->(List (List UInt8))->Nat->Option ((List (List UInt8)))
 |0,_,_=>none
 |k21+1,l16,i17=>
  if ltI i17 p2.L.length then
   (p2.L[i17]?).bind fun x25=>
   (F_ref20_vars l16 x25).bind fun v27=>
   zCm F_ref20_vars p2 k21 v27 (i17+1)
  else
   some l16
def zCx:Nat->(List (List UInt8))->zLn->Option ((List (List UInt8)))
 |0,_,_=>none
 |fuel+1,l1,p2=>
  if eqI p2.Op 2 then
   (app 16 [] l1).bind fun l5=>
   (app 16 l5 [p2.S]).bind fun l9=>
   some l9
  else
   (zCm (zCx fuel) p2 fuel l1 0).bind fun o18=>
   some o18
def zFm(fuel:Nat)(p1:zLn):Option ((List (List UInt8))):=
 (zCx fuel [] p1).bind fun v2=>
 some v2
def zCQ(fuel:Nat)(v7:(List (List UInt8))):Nat->Nat->Option ((Bool) ⊕ (Unit))
 |0,_=>none
 |k14+1,i9=>
  if ltI i9 v7.length then
   (subC v7 0 ((i9:Nat):Int)).bind fun l18=>
   (v7[i9]?).bind fun x22=>
   (zCe fuel l18 x22).bind fun v24=>
   if leI 0 v24 then
    some (.inl false)
   else
    zCQ fuel v7 k14 (i9+1)
  else
   some (.inr ())
def zD3(fuel:Nat)(p1:zLn):Option Bool:=
 (zCn fuel p1 20000 400).bind fun v2=>
 if ltI v2 0 then
  some false
 else
  (zFm fuel p1).bind fun v7=>
  (zCQ fuel v7 fuel 0).bind fun o=>Sum.elim some (fun o10=>
   some true) o
def zCV(c1:UInt8):Option Int:=
 if (leI 97 c1.toNat)&&(leI c1.toNat 122) then
  some 1
 else if (leI 65 c1.toNat)&&(leI c1.toNat 90) then
  some 2
 else if (leI 48 c1.toNat)&&(leI c1.toNat 57) then
  some 3
 else if eqI c1.toNat 95 then
  some 4
 else if eqI c1.toNat 46 then
  some 5
 else
  some 0
def zCr(l16:List UInt8):Nat->Nat->Option ((Bool) ⊕ (Unit))
 |0,_=>none
 |k25+1,i20=>
  if ltI i20 l16.length then
   (l16[i20]?).bind fun x29=>
   (zCV x29).bind fun v31=>
   if (eqI v31 0)||(eqI v31 5) then
    some (.inl false)
   else
    zCr l16 k25 (i20+1)
  else
   some (.inr ())
def zD7(fuel:Nat)(s1:List UInt8)(first2:Int):Option Bool:=
 (if eqS s1 [] then
  some true
 else if ltI 24 s1.length then
  some true
 else
  (s1[0]?).bind fun c9=>
  (zCV c9).bind fun v11=>
  some (!(eqI v11 first2)):Option Bool).bind fun b13=>
 if b13 then
  some false
 else
  (zKR s1).bind fun l16=>
  (zCr l16 fuel 0).bind fun o=>Sum.elim some (fun o21=>
   some true) o
def zDY(s:List UInt8):Option (List (List UInt8)):=if s.length<4294967281∧s.all (fun c=>decide (c.toNat<128))=true∧(Lib.fields s).length<=100000∧(Lib.fields s).all (fun z=>decide (z.length<=100000))=true then some (Lib.fields s) else none
def zA9(s1:(List (List UInt8)))(v2:List UInt8):Nat->Nat->Option ((Int) ⊕ (Unit))
 |0,_=>none
 |k8+1,i3=>
  if ltI i3 s1.length then
   (s1[i3]?).bind fun x12=>
   if eqS v2 x12 then
    some (.inl ((i3:Nat):Int))
   else
    zA9 s1 v2 k8 (i3+1)
  else
   some (.inr ())
def zDV(fuel:Nat)(s1:(List (List UInt8)))(v2:List UInt8):Option Int:=
 (zA9 s1 v2 fuel 0).bind fun o=>Sum.elim some (fun o4=>
  some (-1)) o
def zBZ(fuel:Nat)(s1:(List (List UInt8)))(v2:List UInt8):Option Bool:=
 (zDV fuel s1 v2).bind fun v3=>
 some (leI 0 v3)
def zFr(fuel:Nat)(s1:List UInt8):Option Bool:=
 (zDY [97,110,100,97,108,115,111,32,99,97,115,101,32,100,97,116,97,32,100,105,118,32,101,108,115,101,32,101,110,100,32,102,110,32,102,117,110,32,102,117,110,99,116,111,114,32,103,101,110,101,114,97,116,105,118,101,32,105,102,32,105,109,112,111,114,116,32,105,110,32,105,110,99,108,117,100,101,32,108,101,116,32,109,111,100,32,109,111,100,117,108,101,32,111,102,32,111,112,101,110,32,111,114,101,108,115,101,32,112,97,99,107,32,115,104,97,114,105,110,103,32,115,105,103,32,115,105,103,110,97,116,117,114,101,32,115,116,114,117,99,116,32,115,116,114,117,99,116,117,114,101,32,116,104,101,110,32,116,121,112,101,32,117,110,112,97,99,107,32,118,97,108,32,119,105,116,104]).bind fun v2=>
 (zBZ fuel v2 s1).bind fun v4=>
 some v4
def zEM(fuel:Nat)(s1:List UInt8):Option Bool:=
 ((zD7 fuel s1 1).bind fun v2=>
 if v2 then
  (zFr fuel s1).bind fun v5=>
  some (!v5)
 else
  some false:Option Bool).bind fun b7=>
 some b7
def zDx(fuel:Nat)(s1:List UInt8):Option Bool:=
 (zD7 fuel s1 2).bind fun v2=>
 some v2
def zEs(fuel:Nat)(p1:zLn):Option Bool:=
 if eqI p1.Op 1 then
  some ((eqI p1.L.length 0)&&((eqI p1.N 0)&&(eqS p1.S [])))
 else if eqI p1.Op 2 then
  (if eqI p1.L.length 0 then
   if eqI p1.N 0 then
    (zEM fuel p1.S).bind fun v17=>
    some v17
   else
    some false
  else
   some false:Option Bool).bind fun b21=>
  some b21
 else if eqI p1.Op 3 then
  some ((eqI p1.L.length 0)&&((eqS p1.S [])&&((leI (-4503599627370496) p1.N)&&(leI p1.N 4503599627370496))))
 else if eqI p1.Op 4 then
  (if leI p1.L.length 1 then
   if eqI p1.N 0 then
    (zDx fuel p1.S).bind fun v42=>
    some v42
   else
    some false
  else
   some false:Option Bool).bind fun b47=>
  some b47
 else if eqI p1.Op 5 then
  some ((!(eqI p1.L.length 1))&&((leI p1.L.length 9)&&((eqI p1.N 0)&&(eqS p1.S []))))
 else
  some false
def zBP(F_pattern_measure:zLn->Int->Int->Option (Int×Bool))(p1:zLn)(left2:Int)(depth3:Int):Nat->Int->Nat->Option ((Int×Bool) ⊕ (Int))
 |0,_,_=>none
 |k21+1,n15,i16=>
  if ltI i16 p1.L.length then
   (p1.L[i16]?).bind fun x25=>
   (chk .i64 (left2-n15)).bind fun n27=>
   (chk .i64 (depth3+1)).bind fun n32=>
   (F_pattern_measure x25 n27 n32).bind fun v37=>
   if !v37.2 then
    some (.inl (0,false))
   else
    (chk .i64 (n15+v37.1)).bind fun n42=>
    zBP F_pattern_measure p1 left2 depth3 k21 n42 (i16+1)
  else
   some (.inr n15)
def zBU:Nat->zLn->Int->Int->Option (Int×Bool)
 |0,_,_,_=>none
 |fuel+1,p1,left2,depth3=>
  (if leI left2 0 then
   some true
  else if ltI 400 depth3 then
   some true
  else
   (zEs fuel p1).bind fun v10=>
   some (!v10):Option Bool).bind fun b12=>
  if b12 then
   some (0,false)
  else
   (zBP (zBU fuel) p1 left2 depth3 fuel 1 0).bind fun o=>Sum.elim some (fun o17=>
    some (o17,true)) o
def zEO(name1:List UInt8)(c2:Bool)(c3:(List (List UInt8×Bool))):Option (Bool×(List (List UInt8×Bool))):=
 some (c2&&(!(mgetD c3 name1 false)),mput c3 name1 true)
def zAe(F_pattern_variables_Valid_1:zLn->Bool->(List (List UInt8×Bool))->Option (Bool×(List (List UInt8×Bool))))(p1:zLn):Nat->Bool->(List (List UInt8×Bool))->Nat->Option (Bool×(List (List UInt8×Bool)))
 |0,_,_,_=>none
 |k14+1,a8,a9,i10=>
  if ltI i10 p1.L.length then
   (p1.L[i10]?).bind fun x18=>
   (F_pattern_variables_Valid_1 x18 a8 a9).bind fun v20=>
   zAe F_pattern_variables_Valid_1 p1 k14 v20.1 v20.2 (i10+1)
  else
   some (a8,a9)
def zAi(F_pattern_variables_Valid_1:zLn->Bool->(List (List UInt8×Bool))->Option (Bool×(List (List UInt8×Bool))))(p1:zLn):Nat->Bool->(List (List UInt8×Bool))->Nat->Option (Bool×(List (List UInt8×Bool)))
 |0,_,_,_=>none
 |k37+1,a31,a32,i33=>
  if ltI i33 p1.L.length then
   (p1.L[i33]?).bind fun x41=>
   (F_pattern_variables_Valid_1 x41 a31 a32).bind fun v43=>
   zAi F_pattern_variables_Valid_1 p1 k37 v43.1 v43.2 (i33+1)
  else
   some (a31,a32)
def zAO:Nat->zLn->Bool->(List (List UInt8×Bool))->Option (Bool×(List (List UInt8×Bool)))
 |0,_,_,_=>none
 |fuel+1,p1,c2,c3=>
  if eqI p1.Op 2 then
   (zEO p1.S c2 c3).bind fun v6=>
   (zAe (zAO fuel) p1 fuel v6.1 v6.2 0).bind fun o11=>
   some (o11.1,o11.2)
  else
   (zAi (zAO fuel) p1 fuel c2 c3 0).bind fun o34=>
   some (o34.1,o34.2)
def zEL(fuel:Nat)(p1:zLn):Option Bool:=
 (zBU fuel p1 20000 1).bind fun v2=>
 if !v2.2 then
  some false
 else
  (zAO fuel p1 true []).bind fun v7=>
  some v7.1
def zDI(F_tycon_Size:zLm->Option Int)(c1:zLm):Nat->Int->Nat->Option Int
 |0,_,_=>none
 |k7+1,n2,i3=>
  if ltI i3 c1.L.length then
   (c1.L[i3]?).bind fun x11=>
   (F_tycon_Size x11).bind fun v13=>
   (chk .i64 (n2+v13)).bind fun n15=>
   zDI F_tycon_Size c1 k7 n15 (i3+1)
  else
   some n2
def zCD:Nat->zLm->Option Int
 |0,_=>none
 |fuel+1,c1=>
  (zDI (zCD fuel) c1 fuel 1 0).bind fun o4=>
  some o4
def zBu(F_tycon_depth:zLm->Option Int)(c1:zLm):Nat->Int->Nat->Option Int
 |0,_,_=>none
 |k7+1,n2,i3=>
  if ltI i3 c1.L.length then
   (c1.L[i3]?).bind fun x11=>
   (F_tycon_depth x11).bind fun v13=>
   zBu F_tycon_depth c1 k7 (maxI n2 v13) (i3+1)
  else
   some n2
def zBc:Nat->zLm->Option Int
 |0,_=>none
 |fuel+1,c1=>
  (zBu (zBc fuel) c1 fuel 0 0).bind fun o4=>
  (chk .i64 (o4+1)).bind fun n20=>
  some n20
def zAn(c1:zLm):Option Bool:=
 some ((eqI c1.Op 7)||(eqI c1.Op 8))
def zAx(c1:zLm):Option Bool:=
 some ((eqI c1.Op 9)||((eqI c1.Op 10)||((eqI c1.Op 11)||(eqI c1.Op 13))))
def zB4(c1:zLm):Option Int:=
 if (ltI c1.Op 1)||(ltI 13 c1.Op) then
  some (-1)
 else
  (zAn c1).bind fun v10=>
  if v10 then
   some (c1.Names.length:Int)
  else
   (zAx c1).bind fun v13=>
   if v13 then
    some 1
   else if (eqI c1.Op 6)||(eqI c1.Op 12) then
    some 2
   else
    some 0
def zEf(s t:List UInt8):Option (List UInt8×List UInt8×Bool):=if s.length<4294967281 then some (Lib.cut s t) else none
def zBw(s:List UInt8):Option (Int×Bool):=if s.length<=1000000 then (match Lib.atoiAll s with
 |.ok v=>some (v,false)
 |.range=>some (Lib.atoiSat s,true)
 |_=>some (0,true)) else none
def zBV(l13:List UInt8):Nat->Nat->Option ((Int×Int) ⊕ (Unit))
 |0,_=>none
 |k22+1,i17=>
  if ltI i17 l13.length then
   (l13[i17]?).bind fun x26=>
   (zCV x26).bind fun v28=>
   if !(eqI v28 3) then
    some (.inl (0,3))
   else
    zBV l13 k22 (i17+1)
  else
   some (.inr ())
def zDo(fuel:Nat)(s1:List UInt8):Option (Int×Int):=
 (if eqS s1 [] then
  some true
 else if ltI 1 s1.length then
  (s1[0]?).bind fun c6=>
  some (eqI c6.toNat 48)
 else
  some false:Option Bool).bind fun b10=>
 if b10 then
  some (0,3)
 else
  (zKR s1).bind fun l13=>
  (zBV l13 fuel 0).bind fun o=>Sum.elim some (fun o18=>
   (zBw s1).bind fun v40=>
   if v40.2 then
    some (0,6)
   else if ltI 4503599627370496 v40.1 then
    some (0,6)
   else
    some (v40.1,0)) o
def zBO(fuel:Nat)(s1:List UInt8):Option Bool:=
 (zEf s1 [46]).bind fun v2=>
 (zDo fuel v2.2.1).bind fun v4=>
 (if v2.2.2 then
  if leI s1.length 48 then
   (zDx fuel v2.1).bind fun v10=>
   if v10 then
    some (eqI v4.2 0)
   else
    some false
  else
   some false
 else
  some false:Option Bool).bind fun b15=>
 some b15
def zB2(F_kind_size:zLl->Int->Int->Option (Int×Bool))(k1:zLl)(left2:Int)(depth3:Int):Nat->Int->Nat->Option ((Int×Bool) ⊕ (Int))
 |0,_,_=>none
 |k28+1,n22,i23=>
  if ltI i23 k1.L.length then
   (k1.L[i23]?).bind fun x32=>
   (chk .i64 (left2-n22)).bind fun n34=>
   (chk .i64 (depth3+1)).bind fun n39=>
   (F_kind_size x32 n34 n39).bind fun v44=>
   if !v44.2 then
    some (.inl (0,false))
   else
    (chk .i64 (n22+v44.1)).bind fun n49=>
    zB2 F_kind_size k1 left2 depth3 k28 n49 (i23+1)
  else
   some (.inr n22)
def zC9:Nat->zLl->Int->Int->Option (Int×Bool)
 |0,_,_,_=>none
 |fuel+1,k1,left2,depth3=>
  if (leI left2 0)||((ltI 400 depth3)||((!(eqI k1.L.length 0))&&(!(eqI k1.L.length 2)))) then
   some (0,false)
  else
   (zB2 (zC9 fuel) k1 left2 depth3 fuel 1 0).bind fun o=>Sum.elim some (fun o24=>
    some (o24,true)) o
def zCi(fuel:Nat)(k1:zLl):Option Bool:=
 (zC9 fuel k1 20000 1).bind fun v2=>
 some v2.2
def zAk(l1:(List (List UInt8))):Nat->Nat->Option ((Bool) ⊕ (Unit))
 |0,_=>none
 |k7+1,i2=>
  if ltI i2 l1.length then
   (idx l1 (((i2:Nat):Int)-1)).bind fun x12=>
   (l1[i2]?).bind fun x16=>
   if !(ltS x12 x16) then
    some (.inl false)
   else
    zAk l1 k7 (i2+1)
  else
   some (.inr ())
def zAf(fuel:Nat)(l1:(List (List UInt8))):Option Bool:=
 (zAk l1 fuel 1).bind fun o=>Sum.elim some (fun o3=>
  some true) o
def zBa(l8:List UInt8):Nat->Nat->Option ((Bool) ⊕ (Unit))
 |0,_=>none
 |k17+1,i12=>
  if ltI i12 l8.length then
   (l8[i12]?).bind fun x21=>
   (zCV x21).bind fun v23=>
   if eqI v23 0 then
    some (.inl false)
   else
    zBa l8 k17 (i12+1)
  else
   some (.inr ())
def zDS(fuel:Nat)(s1:List UInt8):Option Bool:=
 if (eqS s1 [])||(ltI 48 s1.length) then
  some false
 else
  (zKR s1).bind fun l8=>
  (zBa l8 fuel 0).bind fun o=>Sum.elim some (fun o13=>
   some true) o
def zCw(fuel:Nat)(s1:List UInt8):Option Bool:=
 (zDS fuel s1).bind fun v2=>
 some (!v2)
def zAP(fuel:Nat)(s1:(List (List UInt8))):Nat->Nat->Option ((Int) ⊕ (Unit))
 |0,_=>none
 |k7+1,i2=>
  if ltI i2 s1.length then
   (s1[i2]?).bind fun x11=>
   (zCw fuel x11).bind fun v13=>
   if v13 then
    some (.inl ((i2:Nat):Int))
   else
    zAP fuel s1 k7 (i2+1)
  else
   some (.inr ())
def zBA(fuel:Nat)(s1:(List (List UInt8))):Option Int:=
 (zAP fuel s1 fuel 0).bind fun o=>Sum.elim some (fun o3=>
  some (-1)) o
def zAG(fuel:Nat)(s1:(List (List UInt8))):Option Bool:=
 (zBA fuel s1).bind fun v2=>
 some (leI 0 v2)
def zAS(F_tycon_formed_2:zLm->Option Bool)(s1:List zLm):Nat->Nat->Option ((Int) ⊕ (Unit))
 |0,_=>none
 |k7+1,i2=>
  if ltI i2 s1.length then
   (s1[i2]?).bind fun x11=>
   (F_tycon_formed_2 x11).bind fun v13=>
   if v13 then
    some (.inl ((i2:Nat):Int))
   else
    zAS F_tycon_formed_2 s1 k7 (i2+1)
  else
   some (.inr ())
mutual
def zBN:Nat->zLm->Option Bool
 |0,_=>none
 |fuel+1,x1=>
  ((zCJ fuel) x1).bind fun v2=>
  some (!v2)
def zAm:Nat->(List zLm)->Option Int
 |0,_=>none
 |fuel+1,s1=>
  (zAS (zBN fuel) s1 fuel 0).bind fun o=>Sum.elim some (fun o3=>
   some (-1)) o
def zAI:Nat->(List zLm)->Option Bool
 |0,_=>none
 |fuel+1,s1=>
  ((zAm fuel) s1).bind fun v2=>
  some (leI 0 v2)
def zCJ:Nat->zLm->Option Bool
 |0,_=>none
 |fuel+1,c1=>
  (zB4 c1).bind fun v2=>
  if !(eqI c1.L.length v2) then
   some false
  else if eqI c1.Op 1 then
   if (ltI c1.N 0)||(ltI 20000 c1.N) then
    some false
   else
    (if eqI c1.Op 2 then
     (zBO fuel c1.S).bind fun v21=>
     if !v21 then
      some true
     else
      some false
    else
     some (!(eqS c1.S [])):Option Bool).bind fun b27=>
    if b27 then
     some false
    else
     ((zAx c1).bind fun v30=>
     if v30 then
      some true
     else
      some (eqI c1.Op 2):Option Bool).bind fun b33=>
     (if b33 then
      (zCi fuel c1.Kind).bind fun v36=>
      if !v36 then
       some true
      else
       some false
     else
      some (ltI 0 c1.Kind.L.length):Option Bool).bind fun b41=>
     if b41 then
      some false
     else
      (if ltI 0 c1.Names.length then
       (zAn c1).bind fun v47=>
       if !v47 then
        some true
       else if ltI 1000 c1.Names.length then
        some true
       else
        (zAf fuel c1.Names).bind fun v55=>
        if !v55 then
         some true
        else
         (zAG fuel c1.Names).bind fun v60=>
         some v60
      else if ltI 1000 c1.Names.length then
       some true
      else
       (zAf fuel c1.Names).bind fun v67=>
       if !v67 then
        some true
       else
        (zAG fuel c1.Names).bind fun v72=>
        some v72:Option Bool).bind fun b74=>
      if b74 then
       some false
      else
       ((zAI fuel) c1.L).bind fun v77=>
       some (!v77)
  else if eqI c1.Op 3 then
   if (ltI c1.N 0)||(ltI 20000 c1.N) then
    some false
   else
    (if eqI c1.Op 2 then
     (zBO fuel c1.S).bind fun v109=>
     if !v109 then
      some true
     else
      some false
    else
     some (!(eqS c1.S [])):Option Bool).bind fun b115=>
    if b115 then
     some false
    else
     ((zAx c1).bind fun v118=>
     if v118 then
      some true
     else
      some (eqI c1.Op 2):Option Bool).bind fun b121=>
     (if b121 then
      (zCi fuel c1.Kind).bind fun v124=>
      if !v124 then
       some true
      else
       some false
     else
      some (ltI 0 c1.Kind.L.length):Option Bool).bind fun b129=>
     if b129 then
      some false
     else
      (if ltI 0 c1.Names.length then
       (zAn c1).bind fun v135=>
       if !v135 then
        some true
       else if ltI 1000 c1.Names.length then
        some true
       else
        (zAf fuel c1.Names).bind fun v143=>
        if !v143 then
         some true
        else
         (zAG fuel c1.Names).bind fun v148=>
         some v148
      else if ltI 1000 c1.Names.length then
       some true
      else
       (zAf fuel c1.Names).bind fun v155=>
       if !v155 then
        some true
       else
        (zAG fuel c1.Names).bind fun v160=>
        some v160:Option Bool).bind fun b162=>
      if b162 then
       some false
      else
       ((zAI fuel) c1.L).bind fun v165=>
       some (!v165)
  else if !(eqI c1.N 0) then
   some false
  else
   (if eqI c1.Op 2 then
    (zBO fuel c1.S).bind fun v192=>
    if !v192 then
     some true
    else
     some false
   else
    some (!(eqS c1.S [])):Option Bool).bind fun b198=>
   if b198 then
    some false
   else
    ((zAx c1).bind fun v201=>
    if v201 then
     some true
    else
     some (eqI c1.Op 2):Option Bool).bind fun b204=>
    (if b204 then
     (zCi fuel c1.Kind).bind fun v207=>
     if !v207 then
      some true
     else
      some false
    else
     some (ltI 0 c1.Kind.L.length):Option Bool).bind fun b212=>
    if b212 then
     some false
    else
     (if ltI 0 c1.Names.length then
      (zAn c1).bind fun v218=>
      if !v218 then
       some true
      else if ltI 1000 c1.Names.length then
       some true
      else
       (zAf fuel c1.Names).bind fun v226=>
       if !v226 then
        some true
       else
        (zAG fuel c1.Names).bind fun v231=>
        some v231
     else if ltI 1000 c1.Names.length then
      some true
     else
      (zAf fuel c1.Names).bind fun v238=>
      if !v238 then
       some true
      else
       (zAG fuel c1.Names).bind fun v243=>
       some v243:Option Bool).bind fun b245=>
     if b245 then
      some false
     else
      ((zAI fuel) c1.L).bind fun v248=>
      some (!v248)
end
def zA8(fuel:Nat)(c1:zLm):Option Bool:=
 ((zCD fuel c1).bind fun v2=>
 if leI v2 20000 then
  (zBc fuel c1).bind fun v6=>
  if leI v6 400 then
   (zCJ fuel c1).bind fun v10=>
   some v10
  else
   some false
 else
  some false:Option Bool).bind fun b14=>
 some b14
def zB1(F_normal_size:zLm->Option (Int×Int))(c1:zLm):Nat->Int->Int->Nat->Option (Int×Int)
 |0,_,_,_=>none
 |k8+1,nodes2,depth3,i4=>
  if ltI i4 c1.L.length then
   (c1.L[i4]?).bind fun x12=>
   (F_normal_size x12).bind fun v14=>
   (chk .i64 (nodes2+v14.1)).bind fun n16=>
   zB1 F_normal_size c1 k8 n16 (maxI depth3 v14.2) (i4+1)
  else
   some (depth3,nodes2)
def zBQ:Nat->zLm->Option (Int×Int)
 |0,_=>none
 |fuel+1,c1=>
  (zB1 (zBQ fuel) c1 fuel 1 0 0).bind fun o5=>
  (chk .i64 (o5.1+1)).bind fun n28=>
  some (o5.2,n28)
def zBb(fuel:Nat)(c1:zLm)(w2:zLi):Option (zLm×zLi):=
 if w2.over then
  some ((zLm.mk 0 0 [] (zLl.mk []) [] []),w2)
 else
  (zBQ fuel c1).bind fun v4=>
  if (ltI 20000 v4.1)||(ltI 400 v4.2) then
   some ((zLm.mk 0 0 [] (zLl.mk []) [] []),(zLi.mk w2.steps true))
  else
   some (c1,w2)
def zD2(fuel:Nat)(c1:zLm):Option Bool:=
 (zA8 fuel c1).bind fun v2=>
 some (!v2)
def zAU(fuel:Nat)(s1:List zLm):Nat->Nat->Option ((Int) ⊕ (Unit))
 |0,_=>none
 |k7+1,i2=>
  if ltI i2 s1.length then
   (s1[i2]?).bind fun x11=>
   (zD2 fuel x11).bind fun v13=>
   if v13 then
    some (.inl ((i2:Nat):Int))
   else
    zAU fuel s1 k7 (i2+1)
  else
   some (.inr ())
def zBF(fuel:Nat)(s1:List zLm):Option Int:=
 (zAU fuel s1 fuel 0).bind fun o=>Sum.elim some (fun o3=>
  some (-1)) o
def zA0(fuel:Nat)(s1:List zLm):Option Bool:=
 (zBF fuel s1).bind fun v2=>
 some (leI 0 v2)
def zE6(fuel:Nat)(l1:List zLm):Option Bool:=
 (zA0 fuel l1).bind fun v2=>
 some (!v2)
def zCY(F_tycon_kindOf:zLl->Option (zLl))(k1:zLl):Nat->(List zLl)->Nat->Option ((List zLl))
 |0,_,_=>none
 |k7+1,L2,i3=>
  if ltI i3 k1.L.length then
   (k1.L[i3]?).bind fun x11=>
   (F_tycon_kindOf x11).bind fun v13=>
   (app 24 L2 [v13]).bind fun l15=>
   zCY F_tycon_kindOf k1 k7 l15 (i3+1)
  else
   some L2
def zBY:Nat->zLl->Option (zLl)
 |0,_=>none
 |fuel+1,k1=>
  (zCY (zBY fuel) k1 fuel [] 0).bind fun o4=>
  some (zLl.mk o4)
def zDk(fuel:Nat)(c1:zLm):Option (zLm):=
 (zBY fuel c1.Kind).bind fun v2=>
 some (zLm.mk c1.Op c1.N c1.S v2 [] [])
def zEp(n1:Int):Option (zLm):=
 some (zLm.mk 1 n1 [] (zLl.mk []) [] [])
def zFE(by1:Int)(from2:Int):Option (Int×Int):=
 some (from2,by1)
def zDq(fuel:Nat)(c1:zLm)(binders2:Int)(a3:Int)(a4:Int):Option (zLm):=
 (if eqI c1.Op 1 then
  (chk .i64 (c1.N-binders2)).bind fun n7=>
  some (leI a3 n7)
 else
  some false:Option Bool).bind fun b13=>
 if b13 then
  (chk .i64 (c1.N+a4)).bind fun n16=>
  (zEp n16).bind fun v21=>
  some v21
 else
  (zDk fuel c1).bind fun v24=>
  some v24
def zBK(s1:List (List UInt8)):Option (List (List UInt8)):=match s1 with
 |[]=>some []
 |x::s=>clC 16 (x::s)
def zA4(F_tycon_maker_rebuild_v2:zLm->Int->Int->Int->Int->Option (zLm×Int))(c1:zLm)(c3:Int)(c4:Int)(n40:Int):Nat->Int->(List zLm)->Nat->Option (Int×(List zLm))
 |0,_,_,_=>none
 |k51+1,left45,L46,i47=>
  if ltI i47 c1.L.length then
   (c1.L[i47]?).bind fun x55=>
   (F_tycon_maker_rebuild_v2 x55 n40 c3 c4 left45).bind fun v57=>
   (app 104 L46 [v57.1]).bind fun l59=>
   zA4 F_tycon_maker_rebuild_v2 c1 c3 c4 n40 k51 v57.2 l59 (i47+1)
  else
   some (left45,L46)
def zA3(F_tycon_maker_rebuild_v2:zLm->Int->Int->Int->Int->Option (zLm×Int))(c1:zLm)(binders2:Int)(c3:Int)(c4:Int):Nat->Int->(List zLm)->Nat->Option (Int×(List zLm))
 |0,_,_,_=>none
 |k76+1,left70,L71,i72=>
  if ltI i72 c1.L.length then
   (c1.L[i72]?).bind fun x80=>
   (F_tycon_maker_rebuild_v2 x80 binders2 c3 c4 left70).bind fun v82=>
   (app 104 L71 [v82.1]).bind fun l84=>
   zA3 F_tycon_maker_rebuild_v2 c1 binders2 c3 c4 k76 v82.2 l84 (i72+1)
  else
   some (left70,L71)
def zAT:Nat->zLm->Int->Int->Int->Int->Option (zLm×Int)
 |0,_,_,_,_,_=>none
 |fuel+1,c1,binders2,c3,c4,c5=>
  if leI c5 0 then
   some ((zLm.mk 0 0 [] (zLl.mk []) [] []),(-1))
  else if (eqI c1.Op 1)||(eqI c1.Op 2) then
   (zDq fuel c1 binders2 c3 c4).bind fun v13=>
   (zCD fuel v13).bind fun v15=>
   (chk .i64 (c5-v15)).bind fun n17=>
   some (v13,n17)
  else
   (chk .i64 (c5-1)).bind fun n28=>
   (zBY fuel c1.Kind).bind fun v33=>
   (zBK c1.Names).bind fun v35=>
   (zAx c1).bind fun v37=>
   if v37 then
    (chk .i64 (binders2+1)).bind fun n40=>
    (zA4 (zAT fuel) c1 c3 c4 n40 fuel n28 [] 0).bind fun o48=>
    some ((zLm.mk c1.Op c1.N c1.S v33 v35 o48.2),o48.1)
   else
    (zA3 (zAT fuel) c1 binders2 c3 c4 fuel n28 [] 0).bind fun o73=>
    some ((zLm.mk c1.Op c1.N c1.S v33 v35 o73.2),o73.1)
def zEJ(fuel:Nat)(c1:zLm)(binders2:Int)(c3:List zLm):Option (zLm):=
 (chk .i64 (c1.N-binders2)).bind fun n4=>
 if (!(eqI c1.Op 1))||(ltI n4 0) then
  (zDk fuel c1).bind fun v15=>
  some v15
 else if leI c3.length n4 then
  (chk .i64 (c1.N-(c3.length:Int))).bind fun n26=>
  (zEp n26).bind fun v31=>
  some v31
 else
  (zFE binders2 0).bind fun v36=>
  (idx c3 n4).bind fun x38=>
  (zAT fuel x38 0 v36.1 v36.2 20000).bind fun v42=>
  some v42.1
def zBJ(F_tycon_maker_rebuild:zLm->Int->Int->(List zLm)->Option (zLm×Int))(c1:zLm)(c4:List zLm)(n39:Int):Nat->Int->(List zLm)->Nat->Option (Int×(List zLm))
 |0,_,_,_=>none
 |k50+1,left44,L45,i46=>
  if ltI i46 c1.L.length then
   (c1.L[i46]?).bind fun x54=>
   (F_tycon_maker_rebuild x54 n39 left44 c4).bind fun v56=>
   (app 104 L45 [v56.1]).bind fun l58=>
   zBJ F_tycon_maker_rebuild c1 c4 n39 k50 v56.2 l58 (i46+1)
  else
   some (left44,L45)
def zBI(F_tycon_maker_rebuild:zLm->Int->Int->(List zLm)->Option (zLm×Int))(c1:zLm)(binders2:Int)(c4:List zLm):Nat->Int->(List zLm)->Nat->Option (Int×(List zLm))
 |0,_,_,_=>none
 |k75+1,left69,L70,i71=>
  if ltI i71 c1.L.length then
   (c1.L[i71]?).bind fun x79=>
   (F_tycon_maker_rebuild x79 binders2 left69 c4).bind fun v81=>
   (app 104 L70 [v81.1]).bind fun l83=>
   zBI F_tycon_maker_rebuild c1 binders2 c4 k75 v81.2 l83 (i71+1)
  else
   some (left69,L70)
def zAg:Nat->zLm->Int->Int->(List zLm)->Option (zLm×Int)
 |0,_,_,_,_=>none
 |fuel+1,c1,binders2,c3,c4=>
  if leI c3 0 then
   some ((zLm.mk 0 0 [] (zLl.mk []) [] []),(-1))
  else if (eqI c1.Op 1)||(eqI c1.Op 2) then
   (zEJ fuel c1 binders2 c4).bind fun v12=>
   (zCD fuel v12).bind fun v14=>
   (chk .i64 (c3-v14)).bind fun n16=>
   some (v12,n16)
  else
   (chk .i64 (c3-1)).bind fun n27=>
   (zBY fuel c1.Kind).bind fun v32=>
   (zBK c1.Names).bind fun v34=>
   (zAx c1).bind fun v36=>
   if v36 then
    (chk .i64 (binders2+1)).bind fun n39=>
    (zBJ (zAg fuel) c1 c4 n39 fuel n27 [] 0).bind fun o47=>
    some ((zLm.mk c1.Op c1.N c1.S v32 v34 o47.2),o47.1)
   else
    (zBI (zAg fuel) c1 binders2 c4 fuel n27 [] 0).bind fun o72=>
    some ((zLm.mk c1.Op c1.N c1.S v32 v34 o72.2),o72.1)
def zBt(fuel:Nat)(c1:zLm)(c2:List zLm):Option (zLm×Int):=
 (zAg fuel c1 0 20000 c2).bind fun v3=>
 (if ltI v3.2 0 then
  some true
 else
  (zA8 fuel v3.1).bind fun v8=>
  some (!v8):Option Bool).bind fun b10=>
 if b10 then
  some ((zLm.mk 0 0 [] (zLl.mk []) [] []),6)
 else
  some (v3.1,0)
def zDe(fuel:Nat)(c1:zLm)(l2:List zLm):Option (zLm×Int):=
 ((zA8 fuel c1).bind fun v3=>
 if !v3 then
  some true
 else
  (zE6 fuel l2).bind fun v8=>
  some (!v8):Option Bool).bind fun b10=>
 if b10 then
  some ((zLm.mk 0 0 [] (zLl.mk []) [] []),1)
 else if ltI 1000 l2.length then
  some ((zLm.mk 0 0 [] (zLl.mk []) [] []),5)
 else
  (zBt fuel c1 l2).bind fun v18=>
  some (v18.1,v18.2)
def zB3(fuel:Nat)(f1:zLm)(a2:zLm)(w3:zLi):Option (zLm×zLi):=
 (chk .i64 (w3.steps+1)).bind fun n4=>
 if ltI 10000 n4 then
  some ((zLm.mk 0 0 [] (zLl.mk []) [] []),(zLi.mk n4 true))
 else if w3.over then
  some ((zLm.mk 0 0 [] (zLl.mk []) [] []),(zLi.mk n4 w3.over))
 else
  (f1.L[0]?).bind fun x13=>
  (zDe fuel x13 [a2]).bind fun v15=>
  if !(eqI v15.2 0) then
   some ((zLm.mk 0 0 [] (zLl.mk []) [] []),(zLi.mk n4 true))
  else
   (zBb fuel v15.1 (zLi.mk n4 w3.over)).bind fun v22=>
   some (v22.1,v22.2)
def zF8(op1:Int):Option Bool:=
 some ((eqI op1 9)||((eqI op1 10)||((eqI op1 11)||(eqI op1 13))))
def zAZ(F_normal_occurs_1:zLm->Int->Option Bool)(s1:List zLm)(c2:Int):Nat->Nat->Option ((Int) ⊕ (Unit))
 |0,_=>none
 |k8+1,i3=>
  if ltI i3 s1.length then
   (s1[i3]?).bind fun x12=>
   (F_normal_occurs_1 x12 c2).bind fun v14=>
   if v14 then
    some (.inl ((i3:Nat):Int))
   else
    zAZ F_normal_occurs_1 s1 c2 k8 (i3+1)
  else
   some (.inr ())
mutual
def zB7:Nat->zLm->Int->Option Bool
 |0,_,_=>none
 |fuel+1,x1,c2=>
  ((zCq fuel) x1 c2).bind fun v3=>
  some v3
def zAz:Nat->(List zLm)->Int->Option Int
 |0,_,_=>none
 |fuel+1,s1,c2=>
  (zAZ (zB7 fuel) s1 c2 fuel 0).bind fun o=>Sum.elim some (fun o4=>
   some (-1)) o
def zAa:Nat->(List zLm)->Int->Option Bool
 |0,_,_=>none
 |fuel+1,s1,c2=>
  ((zAz fuel) s1 c2).bind fun v3=>
  some (leI 0 v3)
def zCq:Nat->zLm->Int->Option Bool
 |0,_,_=>none
 |fuel+1,c1,n2=>
  if eqI c1.Op 1 then
   some (eqI c1.N n2)
  else
   (zF8 c1.Op).bind fun v6=>
   if v6 then
    (chk .i64 (n2+1)).bind fun n9=>
    ((zAa fuel) c1.L n9).bind fun v14=>
    some v14
   else
    ((zAa fuel) c1.L n2).bind fun v17=>
    some v17
end
def zE9(fuel:Nat)(c1:zLm):Option Bool:=
 (if !(eqI c1.Op 11) then
  some true
 else
  (c1.L[0]?).bind fun x7=>
  some (!(eqI x7.Op 12)):Option Bool).bind fun b9=>
 if b9 then
  some false
 else
  (c1.L[0]?).bind fun x12=>
  (x12.L[0]?).bind fun x14=>
  (x12.L[1]?).bind fun x16=>
  (if eqI x16.Op 1 then
   if eqI x16.N 0 then
    (zCq fuel x14 0).bind fun v22=>
    some (!v22)
   else
    some false
  else
   some false:Option Bool).bind fun b26=>
  some b26
def zDJ(c1:zLm)(binders2:Int)(c3:Int)(c4:Int)(c5:Bool):Option Bool:=
 (chk .i64 (c1.N-binders2)).bind fun n6=>
 (if eqI c1.Op 1 then
  if leI c3 n6 then
   (chk .i64 (n6+c4)).bind fun n15=>
   some (ltI n15 c3)
  else
   some false
 else
  some false:Option Bool).bind fun b22=>
 if b22 then
  some true
 else
  some c5
def zAw(F_tycon_each_Shift_1:zLm->Int->Int->Int->Bool->Option Bool)(c1:zLm)(c3:Int)(c4:Int)(n15:Int):Nat->Bool->Nat->Option Bool
 |0,_,_=>none
 |k25+1,a20,i21=>
  if ltI i21 c1.L.length then
   (c1.L[i21]?).bind fun x29=>
   (F_tycon_each_Shift_1 x29 n15 c3 c4 a20).bind fun v31=>
   zAw F_tycon_each_Shift_1 c1 c3 c4 n15 k25 v31 (i21+1)
  else
   some a20
def zAv(F_tycon_each_Shift_1:zLm->Int->Int->Int->Bool->Option Bool)(c1:zLm)(binders2:Int)(c3:Int)(c4:Int):Nat->Bool->Nat->Option Bool
 |0,_,_=>none
 |k43+1,a38,i39=>
  if ltI i39 c1.L.length then
   (c1.L[i39]?).bind fun x47=>
   (F_tycon_each_Shift_1 x47 binders2 c3 c4 a38).bind fun v49=>
   zAv F_tycon_each_Shift_1 c1 binders2 c3 c4 k43 v49 (i39+1)
  else
   some a38
def zAu(F_tycon_each_Shift_1:zLm->Int->Int->Int->Bool->Option Bool)(c1:zLm)(c3:Int)(c4:Int)(n65:Int):Nat->Bool->Nat->Option Bool
 |0,_,_=>none
 |k75+1,a70,i71=>
  if ltI i71 c1.L.length then
   (c1.L[i71]?).bind fun x79=>
   (F_tycon_each_Shift_1 x79 n65 c3 c4 a70).bind fun v81=>
   zAu F_tycon_each_Shift_1 c1 c3 c4 n65 k75 v81 (i71+1)
  else
   some a70
def zAt(F_tycon_each_Shift_1:zLm->Int->Int->Int->Bool->Option Bool)(c1:zLm)(binders2:Int)(c3:Int)(c4:Int):Nat->Bool->Nat->Option Bool
 |0,_,_=>none
 |k93+1,a88,i89=>
  if ltI i89 c1.L.length then
   (c1.L[i89]?).bind fun x97=>
   (F_tycon_each_Shift_1 x97 binders2 c3 c4 a88).bind fun v99=>
   zAt F_tycon_each_Shift_1 c1 binders2 c3 c4 k93 v99 (i89+1)
  else
   some a88
def zAM:Nat->zLm->Int->Int->Int->Bool->Option Bool
 |0,_,_,_,_,_=>none
 |fuel+1,c1,binders2,c3,c4,c5=>
  if (eqI c1.Op 1)||(eqI c1.Op 2) then
   (zDJ c1 binders2 c3 c4 c5).bind fun v10=>
   (zAx c1).bind fun v12=>
   if v12 then
    (chk .i64 (binders2+1)).bind fun n15=>
    (zAw (zAM fuel) c1 c3 c4 n15 fuel v10 0).bind fun o22=>
    some o22
   else
    (zAv (zAM fuel) c1 binders2 c3 c4 fuel v10 0).bind fun o40=>
    some o40
  else
   (zAx c1).bind fun v62=>
   if v62 then
    (chk .i64 (binders2+1)).bind fun n65=>
    (zAu (zAM fuel) c1 c3 c4 n65 fuel c5 0).bind fun o72=>
    some o72
   else
    (zAt (zAM fuel) c1 binders2 c3 c4 fuel c5 0).bind fun o90=>
    some o90
def zBd(fuel:Nat)(c1:zLm)(leaf2:Int)(leaf3:Int):Option (zLm×Int):=
 (zAT fuel c1 0 leaf2 leaf3 20000).bind fun v4=>
 (if ltI v4.2 0 then
  some true
 else
  (zA8 fuel v4.1).bind fun v9=>
  some (!v9):Option Bool).bind fun b11=>
 if b11 then
  some ((zLm.mk 0 0 [] (zLl.mk []) [] []),6)
 else
  some (v4.1,0)
def zDD(fuel:Nat)(c1:zLm)(by2:Int)(from3:Int):Option (zLm×Int):=
 (zA8 fuel c1).bind fun v4=>
 if !v4 then
  some ((zLm.mk 0 0 [] (zLl.mk []) [] []),1)
 else if (ltI from3 0)||((ltI by2 (-20000))||(ltI 20000 by2)) then
  some ((zLm.mk 0 0 [] (zLl.mk []) [] []),2)
 else
  (zAM fuel c1 0 from3 by2 false).bind fun v23=>
  if v23 then
   some ((zLm.mk 0 0 [] (zLl.mk []) [] []),2)
  else
   (zFE by2 from3).bind fun v26=>
   (zBd fuel c1 v26.1 v26.2).bind fun v28=>
   some (v28.1,v28.2)
def zAQ(F_normal_counter_normalize:zLm->zLi->Option (zLm×zLi))(c1:zLm):Nat->Int->Bool->(List zLm)->Nat->Option (Int×Bool×(List zLm))
 |0,_,_,_,_=>none
 |k11+1,steps4,over5,L6,i7=>
  if ltI i7 c1.L.length then
   (c1.L[i7]?).bind fun x15=>
   (F_normal_counter_normalize x15 (zLi.mk steps4 over5)).bind fun v17=>
   (app 104 L6 [v17.1]).bind fun l19=>
   zAQ F_normal_counter_normalize c1 k11 v17.2.steps v17.2.over l19 (i7+1)
  else
   some (steps4,over5,L6)
def zAK:Nat->zLm->zLi->Option (zLm×zLi)
 |0,_,_=>none
 |fuel+1,c1,w2=>
  if w2.over then
   some ((zLm.mk 0 0 [] (zLl.mk []) [] []),w2)
  else
   (zAQ (zAK fuel) c1 fuel w2.steps w2.over [] 0).bind fun o8=>
   (zBb fuel (zLm.mk c1.Op c1.N c1.S c1.Kind c1.Names o8.2.2) (zLi.mk o8.1 o8.2.1)).bind fun v31=>
   if v31.2.over then
    some ((zLm.mk 0 0 [] (zLl.mk []) [] []),v31.2)
   else
    (if eqI v31.1.Op 12 then
     (v31.1.L[0]?).bind fun x36=>
     some (eqI x36.Op 11)
    else
     some false:Option Bool).bind fun b39=>
    if b39 then
     (v31.1.L[0]?).bind fun x42=>
     (v31.1.L[1]?).bind fun x44=>
     (zB3 fuel x42 x44 v31.2).bind fun v46=>
     ((zAK fuel) v46.1 v46.2).bind fun v48=>
     some (v48.1,v48.2)
    else
     (zE9 fuel v31.1).bind fun v52=>
     if v52 then
      (v31.1.L[0]?).bind fun x55=>
      (x55.L[0]?).bind fun x57=>
      (zDD fuel x57 (-1) 0).bind fun v59=>
      if !(eqI v59.2 0) then
       some ((zLm.mk 0 0 [] (zLl.mk []) [] []),(zLi.mk v31.2.steps true))
      else
       some (v59.1,v31.2)
     else
      some (v31.1,v31.2)
def zF4(fuel:Nat)(c1:zLm):Option (zLm×Bool):=
 (zAK fuel c1 (zLi.mk 0 false)).bind fun v2=>
 some (v2.1,!v2.2.over)
def zBR(F_normal_copiedKind:zLl->Option (zLl))(k1:zLl):Nat->(List zLl)->Nat->Option ((List zLl))
 |0,_,_=>none
 |k7+1,L2,i3=>
  if ltI i3 k1.L.length then
   (k1.L[i3]?).bind fun x11=>
   (F_normal_copiedKind x11).bind fun v13=>
   (app 24 L2 [v13]).bind fun l15=>
   zBR F_normal_copiedKind k1 k7 l15 (i3+1)
  else
   some L2
def zBG:Nat->zLl->Option (zLl)
 |0,_=>none
 |fuel+1,k1=>
  (zBR (zBG fuel) k1 fuel [] 0).bind fun o4=>
  some (zLl.mk o4)
def zCF(F_normal_copied:zLm->Option (zLm))(c1:zLm):Nat->(List zLm)->Nat->Option ((List zLm))
 |0,_,_=>none
 |k11+1,L6,i7=>
  if ltI i7 c1.L.length then
   (c1.L[i7]?).bind fun x15=>
   (F_normal_copied x15).bind fun v17=>
   (app 104 L6 [v17]).bind fun l19=>
   zCF F_normal_copied c1 k11 l19 (i7+1)
  else
   some L6
def zBq:Nat->zLm->Option (zLm)
 |0,_=>none
 |fuel+1,c1=>
  (zBG fuel c1.Kind).bind fun v2=>
  (zBK c1.Names).bind fun v4=>
  (zCF (zBq fuel) c1 fuel [] 0).bind fun o8=>
  some (zLm.mk c1.Op c1.N c1.S v2 v4 o8)
def zDR(fuel:Nat)(c1:zLm):Option (zLm×Int):=
 (zA8 fuel c1).bind fun v2=>
 if !v2 then
  some ((zLm.mk 0 0 [] (zLl.mk []) [] []),1)
 else
  (zF4 fuel c1).bind fun v7=>
  if !v7.2 then
   some ((zLm.mk 0 0 [] (zLl.mk []) [] []),27)
  else
   (zBq fuel v7.1).bind fun v12=>
   some (v12,0)
def zDl(n:Int):Option (List UInt8):=if (Lib.itoa n).length<=1000 then some (Lib.itoa n) else none
def zBD(l1:(List (List UInt8))):Nat->Nat->Option ((Bool) ⊕ (Unit))
 |0,_=>none
 |k13+1,i8=>
  if ltI i8 l1.length then
   (l1[i8]?).bind fun x17=>
   (zDl ((i8+1:Nat):Int)).bind fun v20=>
   if !(eqS x17 v20) then
    some (.inl false)
   else
    zBD l1 k13 (i8+1)
  else
   some (.inr ())
def zBm(fuel:Nat)(l1:(List (List UInt8)))(n2:Int):Option Bool:=
 if !(eqI l1.length n2) then
  some false
 else
  (zBD l1 fuel 0).bind fun o=>Sum.elim some (fun o9=>
   some true) o
def zEq(fuel:Nat)(c1:zLm)(binders2:Int):Option (zLm):=
 (zDk fuel c1).bind fun v3=>
 some v3
def zA2(F_tycon_maker_rebuild_v3:zLm->Int->Int->Option (zLm×Int))(c1:zLm)(n38:Int):Nat->Int->(List zLm)->Nat->Option (Int×(List zLm))
 |0,_,_,_=>none
 |k49+1,left43,L44,i45=>
  if ltI i45 c1.L.length then
   (c1.L[i45]?).bind fun x53=>
   (F_tycon_maker_rebuild_v3 x53 n38 left43).bind fun v55=>
   (app 104 L44 [v55.1]).bind fun l57=>
   zA2 F_tycon_maker_rebuild_v3 c1 n38 k49 v55.2 l57 (i45+1)
  else
   some (left43,L44)
def zA1(F_tycon_maker_rebuild_v3:zLm->Int->Int->Option (zLm×Int))(c1:zLm)(binders2:Int):Nat->Int->(List zLm)->Nat->Option (Int×(List zLm))
 |0,_,_,_=>none
 |k74+1,left68,L69,i70=>
  if ltI i70 c1.L.length then
   (c1.L[i70]?).bind fun x78=>
   (F_tycon_maker_rebuild_v3 x78 binders2 left68).bind fun v80=>
   (app 104 L69 [v80.1]).bind fun l82=>
   zA1 F_tycon_maker_rebuild_v3 c1 binders2 k74 v80.2 l82 (i70+1)
  else
   some (left68,L69)
def zAV:Nat->zLm->Int->Int->Option (zLm×Int)
 |0,_,_,_=>none
 |fuel+1,c1,binders2,c3=>
  if leI c3 0 then
   some ((zLm.mk 0 0 [] (zLl.mk []) [] []),(-1))
  else if (eqI c1.Op 1)||(eqI c1.Op 2) then
   (zEq fuel c1 binders2).bind fun v11=>
   (zCD fuel v11).bind fun v13=>
   (chk .i64 (c3-v13)).bind fun n15=>
   some (v11,n15)
  else
   (chk .i64 (c3-1)).bind fun n26=>
   (zBY fuel c1.Kind).bind fun v31=>
   (zBK c1.Names).bind fun v33=>
   (zAx c1).bind fun v35=>
   if v35 then
    (chk .i64 (binders2+1)).bind fun n38=>
    (zA2 (zAV fuel) c1 n38 fuel n26 [] 0).bind fun o46=>
    some ((zLm.mk c1.Op c1.N c1.S v31 v33 o46.2),o46.1)
   else
    (zA1 (zAV fuel) c1 binders2 fuel n26 [] 0).bind fun o71=>
    some ((zLm.mk c1.Op c1.N c1.S v31 v33 o71.2),o71.1)
def zCk(fuel:Nat)(c1:zLm):Option (zLm):=
 (zAV fuel c1 0 20000).bind fun v2=>
 some v2.1
def zBv(fuel:Nat):Nat->zLm->List zLm->Option (zLm×List zLm)
 |0,_,_=>none
 |k+1,x,l=>
  if eqI x.Op 12 then
   (x.L[1]?).bind fun y=>
   (zCk fuel y).bind fun z=>
   (app 104 l [z]).bind fun l1=>
   (x.L[0]?).bind fun u=>
   zBv fuel k u l1
  else
   some (x,l)
def zF2(fuel:Nat)(c1:zLm):Option (zLm×List zLm×Int):=
 (zA8 fuel c1).bind fun v=>
 if !v then
  some (zLm.mk 0 0 [] (zLl.mk []) [] [],[],1)
 else
  (zBv fuel fuel c1 []).bind fun o=>
  (zCk fuel o.1).bind fun z=>
  some (z,o.2.reverse,0)
def zBn(v9:zLm×(List zLm)×Int):Nat->Int->Int->(List UInt8)->(List zLl)->(List (List UInt8))->(List zLm)->Nat->Option (Int×Int×(List UInt8)×(List zLl)×(List (List UInt8))×(List zLm))
 |0,_,_,_,_,_,_,_=>none
 |k40+1,Op30,N31,S32,Kind33,Names34,L35,i36=>
  if ltI i36 v9.2.1.length then
   (v9.2.1[i36]?).bind fun x44=>
   zBn v9 k40 12 0 [] [] [] [(zLm.mk Op30 N31 S32 (zLl.mk Kind33) Names34 L35),x44] (i36+1)
  else
   some (Op30,N31,S32,Kind33,Names34,L35)
def zDw(fuel:Nat)(c1:zLm):Option (zLm×Int):=
 (zDR fuel c1).bind fun v2=>
 if !(eqI v2.2 0) then
  some ((zLm.mk 0 0 [] (zLl.mk []) [] []),v2.2)
 else
  (zF2 fuel v2.1).bind fun v9=>
  if !(eqI v9.2.2 0) then
   some ((zLm.mk 0 0 [] (zLl.mk []) [] []),27)
  else if !(eqI v9.1.Op 13) then
   some ((zLm.mk 0 0 [] (zLl.mk []) [] []),12)
  else
   (v9.1.L[0]?).bind fun x21=>
   (zDe fuel x21 [v9.1]).bind fun v23=>
   if !(eqI v23.2 0) then
    some ((zLm.mk 0 0 [] (zLl.mk []) [] []),27)
   else
    (zBn v9 fuel v23.1.Op v23.1.N v23.1.S v23.1.Kind.L v23.1.Names v23.1.L 0).bind fun o37=>
    (zDR fuel (zLm.mk o37.1 o37.2.1 o37.2.2.1 (zLl.mk o37.2.2.2.1) o37.2.2.2.2.1 o37.2.2.2.2.2)).bind fun v56=>
    if !(eqI v56.2 0) then
     some ((zLm.mk 0 0 [] (zLl.mk []) [] []),27)
    else
     some (v56.1,0)
def zCN(l1:(List (List UInt8)))(s2:List UInt8):Nat->Nat->Option ((Int) ⊕ (Unit))
 |0,_=>none
 |k8+1,i3=>
  if ltI i3 l1.length then
   (l1[i3]?).bind fun x12=>
   if eqS x12 s2 then
    some (.inl ((i3:Nat):Int))
   else
    zCN l1 s2 k8 (i3+1)
  else
   some (.inr ())
def zDp(fuel:Nat)(l1:(List (List UInt8)))(s2:List UInt8):Option Int:=
 (zCN l1 s2 fuel 0).bind fun o=>Sum.elim some (fun o4=>
  some (-1)) o
def zFX(c1:zLm):Option Bool:=
 some ((eqI c1.Op 7)&&(eqI c1.L.length 0))
def zA5(F_pattern_typing_pattern:zLn->zLm->zLj->Option (Int×zLj))(p1:zLn)(c2:zLm):Nat->(List zLk)->Nat->Option ((Int×zLj) ⊕ ((List zLk)))
 |0,_,_=>none
 |k43+1,binds37,i38=>
  if ltI i38 p1.L.length then
   (p1.L[i38]?).bind fun x47=>
   (c2.L[i38]?).bind fun x49=>
   (F_pattern_typing_pattern x47 x49 (zLj.mk binds37)).bind fun v51=>
   if !(eqI v51.1 0) then
    some (.inl (v51.1,v51.2))
   else
    zA5 F_pattern_typing_pattern p1 c2 k43 v51.2.binds (i38+1)
  else
   some (.inr binds37)
mutual
def zAo:Nat->zLn->zLm->zLj->Option (Int×zLj)
 |0,_,_,_=>none
 |fuel+1,p1,c2,w3=>
  (zDw fuel c2).bind fun v4=>
  if eqI v4.2 27 then
   some (v4.2,w3)
  else if (!(eqI v4.2 0))||(!(eqI v4.1.Op 8)) then
   some (12,w3)
  else
   (zDp fuel v4.1.Names p1.S).bind fun v21=>
   if ltI v21 0 then
    some (10,w3)
   else
    (idx v4.1.L v21).bind fun x26=>
    (zFX x26).bind fun v30=>
    if !(eqB v30 (eqI p1.L.length 0)) then
     some (12,w3)
    else if eqI p1.L.length 0 then
     some (0,w3)
    else
     (p1.L[0]?).bind fun x38=>
     ((zAY fuel) x38 x26 w3).bind fun v40=>
     some (v40.1,v40.2)
def zAY:Nat->zLn->zLm->zLj->Option (Int×zLj)
 |0,_,_,_=>none
 |fuel+1,p1,c2,w3=>
  if eqI p1.Op 1 then
   some (0,w3)
  else if eqI p1.Op 2 then
   (zDD fuel c2 0 0).bind fun v9=>
   (app 120 w3.binds [(zLk.mk p1.S v9.1)]).bind fun l11=>
   some (0,(zLj.mk l11))
  else if eqI p1.Op 3 then
   if !(eqI c2.Op 4) then
    some (12,w3)
   else
    some (0,w3)
  else if eqI p1.Op 5 then
   (if !(eqI c2.Op 7) then
    some true
   else
    (zBm fuel c2.Names (p1.L.length:Int)).bind fun v32=>
    some (!v32):Option Bool).bind fun b34=>
   if b34 then
    some (12,w3)
   else
    (zA5 (zAY fuel) p1 c2 fuel w3.binds 0).bind fun o=>Sum.elim some (fun o39=>
     some (0,(zLj.mk o39))) o
  else
   ((zAo fuel) p1 c2 w3).bind fun v65=>
   some (v65.1,v65.2)
end
def zDF(fuel:Nat)(p1:zLn)(c2:zLm):Option ((List zLk)×Int):=
 ((zEL fuel p1).bind fun v3=>
 if !v3 then
  some true
 else
  (zA8 fuel c2).bind fun v8=>
  some (!v8):Option Bool).bind fun b10=>
 if b10 then
  some ([],1)
 else
  (zDR fuel c2).bind fun v13=>
  if !(eqI v13.2 0) then
   some ([],v13.2)
  else
   (zAY fuel p1 v13.1 (zLj.mk [])).bind fun v20=>
   if !(eqI v20.1 0) then
    some ([],v20.1)
   else
    some (v20.2.binds,0)
def zC0(F_ref09_count:zLm->Int->Int->Option Int)(c1:zLm)(left2:Int)(depth3:Int):Nat->Int->Nat->Option Int
 |0,_,_=>none
 |k12+1,n7,i8=>
  if (ltI i8 c1.L.length)&&(ltI n7 left2) then
   (c1.L[i8]?).bind fun x24=>
   (chk .i64 (left2-n7)).bind fun n26=>
   (chk .i64 (depth3+1)).bind fun n31=>
   (F_ref09_count x24 n26 n31).bind fun v36=>
   (chk .i64 (n7+v36)).bind fun n38=>
   zC0 F_ref09_count c1 left2 depth3 k12 n38 (i8+1)
  else
   some n7
def zCp:Nat->zLm->Int->Int->Option Int
 |0,_,_,_=>none
 |fuel+1,c1,left2,depth3=>
  if ltI 400 depth3 then
   some left2
  else
   (zC0 (zCp fuel) c1 left2 depth3 fuel 1 0).bind fun o9=>
   some o9
def zF3(fuel:Nat)(c1:zLm):Option Bool:=
 (zCp fuel c1 20001 1).bind fun v2=>
 some (leI v2 20000)
def zCl(op1:Int):Option Bool:=
 some ((eqI op1 9)||((eqI op1 10)||((eqI op1 11)||(eqI op1 13))))
def zFM(op1:Int):Option Int:=
 if (eqI op1 6)||(eqI op1 12) then
  some 2
 else if (eqI op1 7)||(eqI op1 8) then
  some (-1)
 else
  (zCl op1).bind fun v18=>
  if v18 then
   some 1
  else
   some 0
def zCE(s1:List UInt8):Nat->Nat->Option ((Bool) ⊕ (Unit))
 |0,_=>none
 |k7+1,i2=>
  if ltI i2 s1.length then
   ((s1[i2]?).bind fun c11=>
   (zDE c11).bind fun v13=>
   if !v13 then
    some (!(eqI c11.toNat 46))
   else
    some false:Option Bool).bind fun b18=>
   if b18 then
    some (.inl false)
   else
    zCE s1 k7 (i2+1)
  else
   some (.inr ())
def zDv(fuel:Nat)(s1:List UInt8):Option Bool:=
 (zCE s1 fuel 0).bind fun o=>Sum.elim some (fun o3=>
  some ((leI 1 s1.length)&&(leI s1.length 48))) o
def zBi(l1:(List (List UInt8))):Nat->Nat->Option ((Bool) ⊕ (Unit))
 |0,_=>none
 |k7+1,i2=>
  if ltI i2 l1.length then
   (idx l1 (((i2:Nat):Int)-1)).bind fun x12=>
   (l1[i2]?).bind fun x16=>
   if !(ltS x12 x16) then
    some (.inl false)
   else
    zBi l1 k7 (i2+1)
  else
   some (.inr ())
def zDr(fuel:Nat)(l1:(List (List UInt8))):Option Bool:=
 (zBi l1 fuel 1).bind fun o=>Sum.elim some (fun o3=>
  some true) o
def zCa(fuel:Nat)(l1:(List (List UInt8))):Nat->Nat->Option ((Bool) ⊕ (Unit))
 |0,_=>none
 |k7+1,i2=>
  if ltI i2 l1.length then
   (l1[i2]?).bind fun x11=>
   (zDv fuel x11).bind fun v13=>
   if !v13 then
    some (.inl false)
   else
    zCa fuel l1 k7 (i2+1)
  else
   some (.inr ())
def zED(fuel:Nat)(l1:(List (List UInt8))):Option Bool:=
 (zCa fuel l1 fuel 0).bind fun o=>Sum.elim some (fun o3=>
  (if leI l1.length 1000 then
   (zDr fuel l1).bind fun v26=>
   some v26
  else
   some false:Option Bool).bind fun b30=>
  some b30) o
def zCd(s1:List UInt8):Nat->Int->Nat->Option ((Int×Int) ⊕ (Int))
 |0,_,_=>none
 |k21+1,n15,i16=>
  if ltI i16 s1.length then
   (s1[i16]?).bind fun c25=>
   (zD5 c25).bind fun v27=>
   if !v27 then
    some (.inl (0,3))
   else
    (chk .i64 (10*n15)).bind fun n32=>
    (chk .u8 ((c25.toNat:Int)-48)).bind fun n37=>
    (chk .i64 (n32+n37)).bind fun n43=>
    zCd s1 k21 (minI 4503599627370497 n43) (i16+1)
  else
   some (.inr n15)
def zEE(fuel:Nat)(s1:List UInt8):Option (Int×Int):=
 (if eqI s1.length 0 then
  some true
 else if ltI 1 s1.length then
  (s1[0]?).bind fun c8=>
  some (eqI c8.toNat 48)
 else
  some false:Option Bool).bind fun b12=>
 if b12 then
  some (0,3)
 else
  (zCd s1 fuel 0 0).bind fun o=>Sum.elim some (fun o17=>
   if ltI 4503599627370496 o17 then
    some (0,6)
   else
    some (o17,0)) o
def zBh(fuel:Nat)(s1:List UInt8):Nat->Nat->Option ((Bool) ⊕ (Unit))
 |0,_=>none
 |k12+1,i7=>
  if ltI i7 s1.length then
   (s1[i7]?).bind fun c15=>
   if eqI c15.toNat 46 then
    (subC s1 ((i7+1:Nat):Int) (s1.length:Int)).bind fun s20=>
    (zEE fuel s20).bind fun v24=>
    ((subC s1 0 ((i7:Nat):Int)).bind fun s26=>
    (zDP fuel s26).bind fun v30=>
    if v30 then
     some (eqI v24.2 0)
    else
     some false:Option Bool).bind fun b33=>
    some (.inl b33)
   else
    zBh fuel s1 k12 (i7+1)
  else
   some (.inr ())
def zCc(fuel:Nat)(s1:List UInt8):Option Bool:=
 if ltI 48 s1.length then
  some false
 else
  (zBh fuel s1 fuel 0).bind fun o=>Sum.elim some (fun o8=>
   some false) o
def zB0(F_ref08_count:zLl->Int->Int->Option Int)(k1:zLl)(depth3:Int):Nat->Int->Nat->Option Int
 |0,_,_=>none
 |k32+1,left27,i28=>
  if (ltI i28 k1.L.length)&&(leI 0 left27) then
   (k1.L[i28]?).bind fun x44=>
   (chk .i64 (depth3-1)).bind fun n46=>
   (F_ref08_count x44 left27 n46).bind fun v51=>
   zB0 F_ref08_count k1 depth3 k32 v51 (i28+1)
  else
   some left27
def zDg:Nat->zLl->Int->Int->Option Int
 |0,_,_,_=>none
 |fuel+1,k1,left2,depth3=>
  if (ltI left2 1)||((ltI depth3 1)||((!(eqI k1.L.length 0))&&(!(eqI k1.L.length 2)))) then
   some (-1)
  else
   (chk .i64 (left2-1)).bind fun n22=>
   (zB0 (zDg fuel) k1 depth3 fuel n22 0).bind fun o29=>
   some o29
def zDh(fuel:Nat)(k1:zLl):Option Bool:=
 (zDg fuel k1 20000 400).bind fun v2=>
 some (leI 0 v2)
def zFo(fuel:Nat)(c1:zLm):Option Bool:=
 if (ltI c1.Op 1)||(ltI 13 c1.Op) then
  some false
 else
  (zFM c1.Op).bind fun v10=>
  (if leI 0 v10 then
   if !(eqI c1.L.length v10) then
    some true
   else if !(eqI c1.Names.length 0) then
    some true
   else if ltI v10 0 then
    if !(eqI c1.L.length c1.Names.length) then
     some true
    else
     (zED fuel c1.Names).bind fun v31=>
     some (!v31)
   else
    some false
  else if ltI v10 0 then
   if !(eqI c1.L.length c1.Names.length) then
    some true
   else
    (zED fuel c1.Names).bind fun v42=>
    some (!v42)
  else
   some false:Option Bool).bind fun b45=>
  if b45 then
   some false
  else if (eqI c1.Op 1)||(eqI c1.Op 3) then
   if (ltI c1.N 0)||(ltI 20000 c1.N) then
    some false
   else
    (if eqI c1.Op 2 then
     (zCc fuel c1.S).bind fun v62=>
     if !v62 then
      some true
     else
      some false
    else
     some (!(eqS c1.S [])):Option Bool).bind fun b68=>
    if b68 then
     some false
    else
     (if eqI c1.Op 2 then
      some true
     else
      (zCl c1.Op).bind fun v74=>
      some v74:Option Bool).bind fun b76=>
     if b76 then
      (zDh fuel c1.Kind).bind fun v79=>
      some v79
     else
      some (eqI c1.Kind.L.length 0)
  else if !(eqI c1.N 0) then
   some false
  else
   (if eqI c1.Op 2 then
    (zCc fuel c1.S).bind fun v96=>
    if !v96 then
     some true
    else
     some false
   else
    some (!(eqS c1.S [])):Option Bool).bind fun b102=>
   if b102 then
    some false
   else
    (if eqI c1.Op 2 then
     some true
    else
     (zCl c1.Op).bind fun v108=>
     some v108:Option Bool).bind fun b110=>
    if b110 then
     (zDh fuel c1.Kind).bind fun v113=>
     some v113
    else
     some (eqI c1.Kind.L.length 0)
def zDn(F_ref09_all:zLm->Option Bool)(c1:zLm):Nat->Nat->Option ((Bool) ⊕ (Unit))
 |0,_=>none
 |k12+1,i7=>
  if ltI i7 c1.L.length then
   (c1.L[i7]?).bind fun x16=>
   (F_ref09_all x16).bind fun v18=>
   if !v18 then
    some (.inl false)
   else
    zDn F_ref09_all c1 k12 (i7+1)
  else
   some (.inr ())
def zDu:Nat->zLm->Option Bool
 |0,_=>none
 |fuel+1,c1=>
  (zFo fuel c1).bind fun v2=>
  if !v2 then
   some false
  else
   (zDn (zDu fuel) c1 fuel 0).bind fun o=>Sum.elim some (fun o8=>
    some true) o
def zCR(fuel:Nat)(c1:zLm):Option Bool:=
 ((zF3 fuel c1).bind fun v2=>
 if v2 then
  (zDu fuel c1).bind fun v5=>
  some v5
 else
  some false:Option Bool).bind fun b7=>
 some b7
def zDM(F_ref09_Size:zLm->Option Int)(c1:zLm):Nat->Int->Nat->Option Int
 |0,_,_=>none
 |k7+1,n2,i3=>
  if ltI i3 c1.L.length then
   (c1.L[i3]?).bind fun x11=>
   (F_ref09_Size x11).bind fun v13=>
   (chk .i64 (n2+v13)).bind fun n15=>
   zDM F_ref09_Size c1 k7 n15 (i3+1)
  else
   some n2
def zC1:Nat->zLm->Option Int
 |0,_=>none
 |fuel+1,c1=>
  (zDM (zC1 fuel) c1 fuel 1 0).bind fun o4=>
  some o4
def zCb(c1:zLm)(depth2:Int):Option Int:=
 (zCl c1.Op).bind fun v3=>
 if v3 then
  (chk .i64 (depth2+1)).bind fun n6=>
  some n6
 else
  some depth2
def zBe(F_ref09_grown:zLm->(List Int)->Int->Option Int)(c1:zLm)(sizes2:List Int)(depth3:Int):Nat->Int->Nat->Option Int
 |0,_,_=>none
 |k32+1,n27,i28=>
  if ltI i28 c1.L.length then
   (c1.L[i28]?).bind fun x36=>
   (zCb c1 depth3).bind fun v38=>
   (F_ref09_grown x36 sizes2 v38).bind fun v40=>
   (chk .i64 (n27+v40)).bind fun n42=>
   zBe F_ref09_grown c1 sizes2 depth3 k32 n42 (i28+1)
  else
   some n27
def zB5:Nat->zLm->(List Int)->Int->Option Int
 |0,_,_,_=>none
 |fuel+1,c1,sizes2,depth3=>
  (if eqI c1.Op 1 then
   if leI depth3 c1.N then
    (chk .i64 (c1.N-depth3)).bind fun n8=>
    some (ltI n8 sizes2.length)
   else
    some false
  else
   some false:Option Bool).bind fun b15=>
  if b15 then
   (chk .i64 (c1.N-depth3)).bind fun n18=>
   (idx sizes2 n18).bind fun x23=>
   some x23
  else
   (zBe (zB5 fuel) c1 sizes2 depth3 fuel 1 0).bind fun o29=>
   some o29
def zC4(fuel:Nat)(l2:List zLm):Nat->(List Int)->Nat->Option ((List Int))
 |0,_,_=>none
 |k8+1,sizes3,i4=>
  if ltI i4 l2.length then
   (l2[i4]?).bind fun x12=>
   (zC1 fuel x12).bind fun v14=>
   (app 8 sizes3 [v14]).bind fun l16=>
   zC4 fuel l2 k8 l16 (i4+1)
  else
   some sizes3
def zEg(fuel:Nat)(c1:zLm)(l2:List zLm):Option Int:=
 (zC4 fuel l2 fuel [] 0).bind fun o5=>
 (zB5 fuel c1 o5 0).bind fun v25=>
 some v25
def zFW(c1:zLm)(l2:List zLm):Option (zLm):=
 some (zLm.mk c1.Op c1.N c1.S c1.Kind c1.Names l2)
def zC2(F_ref09_Shift:zLm->Int->Int->Option (zLm))(c1:zLm)(by2:Int)(from3:Int):Nat->(List zLm)->Nat->Option ((List zLm))
 |0,_,_=>none
 |k20+1,l15,i16=>
  if ltI i16 c1.L.length then
   (c1.L[i16]?).bind fun x24=>
   (zCb c1 (minI from3 20001)).bind fun v26=>
   (F_ref09_Shift x24 by2 v26).bind fun v28=>
   (app 104 l15 [v28]).bind fun l30=>
   zC2 F_ref09_Shift c1 by2 from3 k20 l30 (i16+1)
  else
   some l15
def zB6:Nat->zLm->Int->Int->Option (zLm)
 |0,_,_,_=>none
 |fuel+1,c1,by2,from3=>
  if eqI c1.Op 1 then
   if leI (minI from3 20001) c1.N then
    (chk .i64 (c1.N+by2)).bind fun n8=>
    some (zLm.mk 1 n8 [] (zLl.mk []) [] [])
   else
    some c1
  else
   (zC2 (zB6 fuel) c1 by2 from3 fuel [] 0).bind fun o17=>
   (zFW c1 o17).bind fun v40=>
   some v40
def zCz(F_ref09_subst:zLm->(List zLm)->Int->Option (zLm))(c1:zLm)(l2:List zLm)(depth3:Int):Nat->(List zLm)->Nat->Option ((List zLm))
 |0,_,_=>none
 |k38+1,parts33,i34=>
  if ltI i34 c1.L.length then
   (c1.L[i34]?).bind fun x42=>
   (zCb c1 depth3).bind fun v44=>
   (F_ref09_subst x42 l2 v44).bind fun v46=>
   (app 104 parts33 [v46]).bind fun l48=>
   zCz F_ref09_subst c1 l2 depth3 k38 l48 (i34+1)
  else
   some parts33
def zCo:Nat->zLm->(List zLm)->Int->Option (zLm)
 |0,_,_,_=>none
 |fuel+1,c1,l2,depth3=>
  if eqI c1.Op 1 then
   if ltI c1.N depth3 then
    some c1
   else
    (chk .i64 (c1.N-depth3)).bind fun n9=>
    if ltI n9 l2.length then
     (idx l2 n9).bind fun x18=>
     (zB6 fuel x18 depth3 0).bind fun v22=>
     some v22
    else
     (chk .i64 (c1.N-(l2.length:Int))).bind fun n27=>
     some (zLm.mk 1 n27 [] (zLl.mk []) [] [])
  else
   (zCz (zCo fuel) c1 l2 depth3 fuel [] 0).bind fun o35=>
   (zFW c1 o35).bind fun v58=>
   some v58
def zDf(fuel:Nat)(c1:zLm)(l2:List zLm):Option (zLm):=
 (zCo fuel c1 l2 0).bind fun v3=>
 some v3
def zCK(l1:List Int)(n2:Int):Nat->(List Int)->Bool->Nat->Option ((List Int)×Bool)
 |0,_,_,_=>none
 |k9+1,out3,done4,i5=>
  if ltI i5 l1.length then
   (if !done4 then
    (l1[i5]?).bind fun x15=>
    some (leI n2 x15)
   else
    some false:Option Bool).bind fun b18=>
   if b18 then
    (app 8 out3 [n2]).bind fun l21=>
    (l1[i5]?).bind fun x25=>
    if !(eqI x25 n2) then
     (app 8 l21 [x25]).bind fun l30=>
     zCK l1 n2 k9 l30 true (i5+1)
    else
     zCK l1 n2 k9 l21 true (i5+1)
   else
    (l1[i5]?).bind fun x39=>
    if !(eqI x39 n2) then
     (app 8 out3 [x39]).bind fun l44=>
     zCK l1 n2 k9 l44 done4 (i5+1)
    else
     zCK l1 n2 k9 out3 done4 (i5+1)
  else
   some (out3,done4)
def zGL(fuel:Nat)(l1:List Int)(n2:Int):Option ((List Int)):=
 (zCK l1 n2 fuel [] false 0).bind fun o6=>
 if !o6.2 then
  (app 8 o6.1 [n2]).bind fun l59=>
  some l59
 else
  some o6.1
def zDK(F_ref09_free:(List Int)->zLm->Int->Option ((List Int)))(c2:zLm)(depth3:Int):Nat->(List Int)->Nat->Option ((List Int))
 |0,_,_=>none
 |k25+1,l20,i21=>
  if ltI i21 c2.L.length then
   (c2.L[i21]?).bind fun x29=>
   (zCb c2 depth3).bind fun v31=>
   (F_ref09_free l20 x29 v31).bind fun v33=>
   zDK F_ref09_free c2 depth3 k25 v33 (i21+1)
  else
   some l20
def zDL:Nat->(List Int)->zLm->Int->Option ((List Int))
 |0,_,_,_=>none
 |fuel+1,l1,c2,depth3=>
  if (eqI c2.Op 1)&&(leI depth3 c2.N) then
   (chk .i64 (c2.N-depth3)).bind fun n12=>
   (zGL fuel l1 n12).bind fun v17=>
   some v17
  else
   (zDK (zDL fuel) c2 depth3 fuel l1 0).bind fun o22=>
   some o22
def zGj(fuel:Nat)(c1:zLm):Option ((List Int)):=
 (zDL fuel [] c1 0).bind fun v2=>
 some v2
def zCZ(n2:Int)(v3:List Int):Nat->Nat->Option ((Bool) ⊕ (Unit))
 |0,_=>none
 |k10+1,i5=>
  if ltI i5 v3.length then
   (v3[i5]?).bind fun x14=>
   if eqI x14 n2 then
    some (.inl true)
   else
    zCZ n2 v3 k10 (i5+1)
  else
   some (.inr ())
def zEr(fuel:Nat)(c1:zLm)(n2:Int):Option Bool:=
 (zGj fuel c1).bind fun v3=>
 (zCZ n2 v3 fuel 0).bind fun o=>Sum.elim some (fun o6=>
  some false) o
def zFa(fuel:Nat)(c1:zLm):Option Bool:=
 (if !(eqI c1.Op 11) then
  some true
 else
  (c1.L[0]?).bind fun x7=>
  some (!(eqI x7.Op 12)):Option Bool).bind fun b9=>
 if b9 then
  some false
 else
  (c1.L[0]?).bind fun x12=>
  (x12.L[1]?).bind fun x14=>
  (if eqI x14.Op 1 then
   if eqI x14.N 0 then
    (x12.L[0]?).bind fun x20=>
    (zEr fuel x20 0).bind fun v22=>
    some (!v22)
   else
    some false
  else
   some false:Option Bool).bind fun b26=>
  some b26
def zBC(F_ref11_normalize:zLm->Int->Option (zLm×Int))(c1:zLm):Nat->(List zLm)->Int->Nat->Option ((zLm×Int) ⊕ (Int×(List zLm)))
 |0,_,_,_=>none
 |k10+1,L3,left4,i5=>
  if ltI i5 c1.L.length then
   (c1.L[i5]?).bind fun x14=>
   (F_ref11_normalize x14 left4).bind fun v16=>
   if ltI v16.2 0 then
    some (.inl ((zLm.mk 0 0 [] (zLl.mk []) [] []),(-1)))
   else
    (app 104 L3 [v16.1]).bind fun l21=>
    zBC F_ref11_normalize c1 k10 l21 v16.2 (i5+1)
  else
   some (.inr (left4,L3))
def zAs:Nat->zLm->Int->Option (zLm×Int)
 |0,_,_=>none
 |fuel+1,c1,left2=>
  (zBC (zAs fuel) c1 fuel [] left2 0).bind fun o=>Sum.elim some (fun o6=>
   (zCR fuel (zLm.mk c1.Op c1.N c1.S c1.Kind c1.Names o6.2)).bind fun v32=>
   if !v32 then
    some ((zLm.mk 0 0 [] (zLl.mk []) [] []),(-1))
   else
    (if eqI c1.Op 12 then
     (o6.2[0]?).bind fun x39=>
     some (eqI x39.Op 11)
    else
     some false:Option Bool).bind fun b42=>
    if b42 then
     if eqI o6.1 0 then
      some ((zLm.mk 0 0 [] (zLl.mk []) [] []),(-1))
     else
      (o6.2[0]?).bind fun x48=>
      (x48.L[0]?).bind fun x50=>
      (o6.2[1]?).bind fun x52=>
      (zEg fuel x50 [x52]).bind fun v54=>
      if ltI 20000 v54 then
       some ((zLm.mk 0 0 [] (zLl.mk []) [] []),(-1))
      else
       (zDf fuel x50 [x52]).bind fun v59=>
       (zCR fuel v59).bind fun v61=>
       if !v61 then
        some ((zLm.mk 0 0 [] (zLl.mk []) [] []),(-1))
       else
        (chk .i64 (o6.1-1)).bind fun n66=>
        ((zAs fuel) v59 n66).bind fun v71=>
        some (v71.1,v71.2)
    else
     (zFa fuel (zLm.mk c1.Op c1.N c1.S c1.Kind c1.Names o6.2)).bind fun v77=>
     if v77 then
      (o6.2[0]?).bind fun x80=>
      (x80.L[0]?).bind fun x82=>
      (zB6 fuel x82 (-1) 0).bind fun v84=>
      some (v84,o6.1)
     else
      some ((zLm.mk c1.Op c1.N c1.S c1.Kind c1.Names o6.2),o6.1)) o
def zEV(fuel:Nat)(c1:zLm):Option (zLm×Bool):=
 (zCR fuel c1).bind fun v2=>
 if !v2 then
  some ((zLm.mk 0 0 [] (zLl.mk []) [] []),false)
 else
  (zAs fuel c1 10000).bind fun v7=>
  some (v7.1,leI 0 v7.2)
def zCL:Nat->Int->Option ((List UInt8))
 |0,_=>none
 |fuel+1,n1=>
  if ltI n1 0 then
   (chk .i64 (0-n1)).bind fun n4=>
   ((zCL fuel) n4).bind fun v9=>
   (cat [45] v9).bind fun s11=>
   some s11
  else if ltI n1 10 then
   some [(UInt8.ofNat (Int.toNat (48+n1)))]
  else
   (chk .i64 (Int.tdiv n1 10)).bind fun n22=>
   ((zCL fuel) n22).bind fun v26=>
   (cat v26 [(UInt8.ofNat (Int.toNat (48+(Int.tmod n1 10))))]).bind fun s32=>
   some s32
def zBy(fuel:Nat)(l1:(List (List UInt8)))(n2:Int):Nat->Int->Option ((Bool) ⊕ (Unit))
 |0,_=>none
 |k14+1,i8=>
  if ltI i8 n2 then
   (idx l1 i8).bind fun x17=>
   (chk .i64 (i8+1)).bind fun n21=>
   (zCL fuel n21).bind fun v26=>
   if !(eqS x17 v26) then
    some (.inl false)
   else
    zBy fuel l1 n2 k14 n21
  else
   some (.inr ())
def zDZ(fuel:Nat)(l1:(List (List UInt8)))(n2:Int):Option Bool:=
 if !(eqI l1.length n2) then
  some false
 else
  (zBy fuel l1 n2 fuel 0).bind fun o=>Sum.elim some (fun o9=>
   some true) o
def zCS:Nat->zLm->Option (zLm×(List zLm))
 |0,_=>none
 |fuel+1,c1=>
  if !(eqI c1.Op 12) then
   some (c1,[])
  else
   (c1.L[0]?).bind fun x7=>
   ((zCS fuel) x7).bind fun v9=>
   (app 104 [] v9.2).bind fun l11=>
   (c1.L[1]?).bind fun x15=>
   (app 104 l11 [x15]).bind fun l17=>
   some (v9.1,l17)
def zBT(v12:zLm×(List zLm)):Nat->Int->Int->(List UInt8)->(List zLl)->(List (List UInt8))->(List zLm)->Nat->Option (Int×Int×(List UInt8)×(List zLl)×(List (List UInt8))×(List zLm))
 |0,_,_,_,_,_,_,_=>none
 |k38+1,Op28,N29,S30,Kind31,Names32,L33,i34=>
  if ltI i34 v12.2.length then
   (v12.2[i34]?).bind fun x42=>
   zBT v12 k38 12 0 [] [] [] [(zLm.mk Op28 N29 S30 (zLl.mk Kind31) Names32 L33),x42] (i34+1)
  else
   some (Op28,N29,S30,Kind31,Names32,L33)
def zDm(fuel:Nat)(c1:zLm):Option (zLm×Int):=
 (zCR fuel c1).bind fun v2=>
 if !v2 then
  some ((zLm.mk 0 0 [] (zLl.mk []) [] []),1)
 else
  (zEV fuel c1).bind fun v7=>
  if !v7.2 then
   some ((zLm.mk 0 0 [] (zLl.mk []) [] []),27)
  else
   (zCS fuel v7.1).bind fun v12=>
   if !(eqI v12.1.Op 13) then
    some ((zLm.mk 0 0 [] (zLl.mk []) [] []),12)
   else
    (v12.1.L[0]?).bind fun x19=>
    (zEg fuel x19 [v12.1]).bind fun v21=>
    if ltI 20000 v21 then
     some ((zLm.mk 0 0 [] (zLl.mk []) [] []),27)
    else
     (zDf fuel x19 [v12.1]).bind fun v26=>
     (zBT v12 fuel v26.Op v26.N v26.S v26.Kind.L v26.Names v26.L 0).bind fun o35=>
     (zEV fuel (zLm.mk o35.1 o35.2.1 o35.2.2.1 (zLl.mk o35.2.2.2.1) o35.2.2.2.2.1 o35.2.2.2.2.2)).bind fun v54=>
     if !v54.2 then
      some ((zLm.mk 0 0 [] (zLl.mk []) [] []),27)
     else
      some (v54.1,0)
def zFn(c1:zLm):Option Bool:=
 some ((eqI c1.Op 7)&&(eqI c1.L.length 0))
def zCy(F_ref20_typed:(List zLk)->zLn->zLm->Option ((List zLk)×Int))(p2:zLn)(c3:zLm):Nat->(List zLk)->Nat->Option (((List zLk)×Int) ⊕ ((List zLk)))
 |0,_,_=>none
 |k43+1,l37,i38=>
  if ltI i38 p2.L.length then
   (p2.L[i38]?).bind fun x47=>
   (c3.L[i38]?).bind fun x49=>
   (F_ref20_typed l37 x47 x49).bind fun v51=>
   if !(eqI v51.2 0) then
    some (.inl ([],v51.2))
   else
    zCy F_ref20_typed p2 c3 k43 v51.1 (i38+1)
  else
   some (.inr l37)
def zBl:Nat->(List zLk)->zLn->zLm->Option ((List zLk)×Int)
 |0,_,_,_=>none
 |fuel+1,l1,p2,c3=>
  if eqI p2.Op 2 then
   (app 120 [] l1).bind fun l6=>
   (app 120 l6 [(zLk.mk p2.S c3)]).bind fun l10=>
   some (l10,0)
  else if eqI p2.Op 3 then
   if !(eqI c3.Op 4) then
    some ([],12)
   else
    some (l1,0)
  else if eqI p2.Op 5 then
   (if !(eqI c3.Op 7) then
    some true
   else
    (zDZ fuel c3.Names (p2.L.length:Int)).bind fun v32=>
    some (!v32):Option Bool).bind fun b34=>
   if b34 then
    some ([],12)
   else
    (zCy (zBl fuel) p2 c3 fuel l1 0).bind fun o=>Sum.elim some (fun o39=>
     some (o39,0)) o
  else if eqI p2.Op 4 then
   (zDm fuel c3).bind fun v67=>
   if !(eqI v67.2 0) then
    some ([],v67.2)
   else if !(eqI v67.1.Op 8) then
    some ([],12)
   else
    (zCe fuel v67.1.Names p2.S).bind fun v79=>
    if ltI v79 0 then
     some ([],10)
    else
     (idx v67.1.L v79).bind fun x84=>
     (zFn x84).bind fun v88=>
     if !(eqB v88 (eqI p2.L.length 0)) then
      some ([],12)
     else if eqI p2.L.length 1 then
      (p2.L[0]?).bind fun x95=>
      ((zBl fuel) l1 x95 x84).bind fun v97=>
      some (v97.1,v97.2)
     else
      some (l1,0)
  else
   some (l1,0)
def zE7(fuel:Nat)(p1:zLn)(c2:zLm):Option ((List zLk)×Int):=
 (zEV fuel c2).bind fun v3=>
 if !v3.2 then
  some ([],27)
 else
  (zBl fuel [] p1 v3.1).bind fun v8=>
  some (v8.1,v8.2)
def zBz(F_ref09_SameKind:zLl->zLl->Option Bool)(a1:zLl)(b2:zLl):Nat->Nat->Option ((Bool) ⊕ (Unit))
 |0,_=>none
 |k13+1,i8=>
  if ltI i8 a1.L.length then
   (a1.L[i8]?).bind fun x17=>
   (b2.L[i8]?).bind fun x19=>
   (F_ref09_SameKind x17 x19).bind fun v21=>
   if !v21 then
    some (.inl false)
   else
    zBz F_ref09_SameKind a1 b2 k13 (i8+1)
  else
   some (.inr ())
def zBf:Nat->zLl->zLl->Option Bool
 |0,_,_=>none
 |fuel+1,a1,b2=>
  if !(eqI a1.L.length b2.L.length) then
   some false
  else
   (zBz (zBf fuel) a1 b2 fuel 0).bind fun o=>Sum.elim some (fun o9=>
    some true) o
def zDO(a1:(List (List UInt8)))(b2:(List (List UInt8))):Nat->Nat->Option ((Bool) ⊕ (Unit))
 |0,_=>none
 |k13+1,i8=>
  if ltI i8 a1.length then
   (a1[i8]?).bind fun x17=>
   (b2[i8]?).bind fun x19=>
   if !(eqS x17 x19) then
    some (.inl false)
   else
    zDO a1 b2 k13 (i8+1)
  else
   some (.inr ())
def zFp(fuel:Nat)(a1:(List (List UInt8)))(b2:(List (List UInt8))):Option Bool:=
 if !(eqI a1.length b2.length) then
  some false
 else
  (zDO a1 b2 fuel 0).bind fun o=>Sum.elim some (fun o9=>
   some true) o
def zDN(F_ref09_Same:zLm->zLm->Option Bool)(a1:zLm)(b2:zLm):Nat->Nat->Option ((Bool) ⊕ (Unit))
 |0,_=>none
 |k36+1,i31=>
  if ltI i31 a1.L.length then
   (a1.L[i31]?).bind fun x40=>
   (b2.L[i31]?).bind fun x42=>
   (F_ref09_Same x40 x42).bind fun v44=>
   if !v44 then
    some (.inl false)
   else
    zDN F_ref09_Same a1 b2 k36 (i31+1)
  else
   some (.inr ())
def zC3:Nat->zLm->zLm->Option Bool
 |0,_,_=>none
 |fuel+1,a1,b2=>
  (if !(eqI a1.Op b2.Op) then
   some true
  else if !(eqI a1.N b2.N) then
   some true
  else if !(eqS a1.S b2.S) then
   some true
  else if !(eqI a1.L.length b2.L.length) then
   some true
  else
   (zBf fuel a1.Kind b2.Kind).bind fun v21=>
   if !v21 then
    some true
   else
    (zFp fuel a1.Names b2.Names).bind fun v26=>
    some (!v26):Option Bool).bind fun b28=>
  if b28 then
   some false
  else
   (zDN (zC3 fuel) a1 b2 fuel 0).bind fun o=>Sum.elim some (fun o32=>
    some true) o
def zBg(fuel:Nat)(a1:List zLk)(b2:List zLk):Nat->Nat->Option ((Bool) ⊕ (Unit))
 |0,_=>none
 |k13+1,i8=>
  if ltI i8 a1.length then
   ((a1[i8]?).bind fun x17=>
   (b2[i8]?).bind fun x19=>
   if !(eqS x17.Name x19.Name) then
    some true
   else
    (zC3 fuel x17.Con x19.Con).bind fun v24=>
    some (!v24):Option Bool).bind fun b26=>
   if b26 then
    some (.inl false)
   else
    zBg fuel a1 b2 k13 (i8+1)
  else
   some (.inr ())
def zC8(fuel:Nat)(a1:List zLk)(b2:List zLk):Option Bool:=
 if !(eqI a1.length b2.length) then
  some false
 else
  (zBg fuel a1 b2 fuel 0).bind fun o=>Sum.elim some (fun o9=>
   some true) o
def zCG(fuel:Nat)(p1:zLn)(c2:zLm):Option Bool:=
 (zFO).bind fun v3=>
 if !v3 then
  some false
 else
  ((zGM fuel p1).bind fun v8=>
  if v8 then
   some true
  else
   (zEW fuel c2).bind fun v11=>
   some v11:Option Bool).bind fun b13=>
  if b13 then
   some true
  else
   (zDF fuel p1 c2).bind fun v16=>
   ((zD3 fuel p1).bind fun v18=>
   if !v18 then
    some true
   else
    (zCR fuel c2).bind fun v23=>
    some (!v23):Option Bool).bind fun b25=>
   if b25 then
    some ((eqI v16.2 1)&&(eqI v16.1.length 0))
   else
    (zE7 fuel p1 c2).bind fun v31=>
    (if eqI v16.2 v31.2 then
     (zC8 fuel v16.1 v31.1).bind fun v35=>
     some v35
    else
     some false:Option Bool).bind fun b38=>
    some b38
def zEw(s:List UInt8)(c:UInt8):Option Int:=some (Lib.indexByte s c)
def zGh(l:List (List UInt8))(s:List UInt8):Option (List UInt8):=if l.length<=140737488355328∧(Lib.join l s).length<=140737488355328 then some (Lib.join l s) else none
def zGi(b:List UInt8):Option (List UInt8):=some b
end Go.Proofs.YtencdekdgajgfaaGreatDoor
