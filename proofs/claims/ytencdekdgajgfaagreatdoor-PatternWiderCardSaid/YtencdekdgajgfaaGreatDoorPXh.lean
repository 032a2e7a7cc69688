/- For every input the law PatternWider returns true. Part 8 of 22. No condition. -/
import Derived.Test.YtencdekdgajgfaaGreatDoorPXg
import Derived.Lib.Bytealg
import Derived.Lib.Join
import Derived.Lib.Fields
import Derived.Lib.ItoaNum
import Derived.Lib.AtoiAll
set_option linter.unusedVariables false
set_option linter.unnecessarySimpa false
set_option linter.unusedSimpArgs false
set_option maxRecDepth 100000
set_option maxHeartbeats 1000000
namespace Go.Proofs.YtencdekdgajgfaaGreatDoor
open Go Go.Abs
def zF3:Option Bool:=some true
def zDQ(F_law20_big_1:zLc->Int->Int->Option (Int))(p1:zLc)(depth2:Int):Nat->Int->Nat->Option (Int)
 |0,_,_=>none
 |k23+1,a18,i19=>
  if (ltI ((i19:Nat):Int) (p1.L.length:Int))&&(leI a18 200) then
   (p1.L[i19]?).bind fun x35=>
   (chk .i64 (depth2+1)).bind fun n37=>
   (F_law20_big_1 x35 n37 a18).bind fun v42=>
   zDQ F_law20_big_1 p1 depth2 k23 v42 (i19+1)
  else
   some a18
def zCd(F_law20_big_1:zLc->Int->Int->Option (Int))(p1:zLc)(depth2:Int):Nat->Int->Nat->Option (Int)
 |0,_,_=>none
 |k61+1,a56,i57=>
  if (ltI ((i57:Nat):Int) (p1.L.length:Int))&&(leI a56 200) then
   (p1.L[i57]?).bind fun x70=>
   (chk .i64 (depth2+1)).bind fun n72=>
   (F_law20_big_1 x70 n72 a56).bind fun v77=>
   zCd F_law20_big_1 p1 depth2 k61 v77 (i57+1)
  else
   some a56
def zCH:Nat->zLc->Int->Int->Option (Int)
 |0,_,_,_=>none
 |fuel+1,p1,depth2,c3=>
  (chk .i64 (c3+1)).bind fun n4=>
  if (ltI 50 depth2)||((ltI 20 (p1.L.length:Int))||(ltI 200 (p1.S.length:Int))) then
   (zDQ (zCH fuel) p1 depth2 fuel 1000 0).bind fun o20=>
   some o20
  else
   (zCd (zCH fuel) p1 depth2 fuel n4 0).bind fun o58=>
   some o58
def zEW(fuel:Nat)(p1:zLc):Option (Bool):=
 (zCH fuel p1 1 0).bind fun v2=>
 some (ltI 200 v2)
def zDt(s1:(List UInt8)):Option (Bool):=
 some (ltI 100 (s1.length:Int))
def zAh(s1:(List (List UInt8))):Nat->Nat->Option ((Int) ⊕ (Unit))
 |0,_=>none
 |k7+1,i2=>
  if ltI ((i2:Nat):Int) (s1.length:Int) then
   (s1[i2]?).bind fun x11=>
   (zDt x11).bind fun v13=>
   if v13 then
    some (.inl ((i2:Nat):Int))
   else
    zAh s1 k7 (i2+1)
  else
   some (.inr ())
def zBj(fuel:Nat)(s1:(List (List UInt8))):Option (Int):=
 (zAh s1 fuel 0).bind fun o=>Sum.elim some (fun o3=>
  some (-1)) o
def zA7(fuel:Nat)(s1:(List (List UInt8))):Option (Bool):=
 (zBj fuel s1).bind fun v2=>
 some (leI 0 v2)
def zCk(F_law20_wide_1:zLb->Int->Int->Option (Int))(k1:zLb)(depth2:Int):Nat->Int->Nat->Option (Int)
 |0,_,_=>none
 |k18+1,a13,i14=>
  if (ltI ((i14:Nat):Int) (k1.L.length:Int))&&(leI a13 400) then
   (k1.L[i14]?).bind fun x30=>
   (chk .i64 (depth2+1)).bind fun n32=>
   (F_law20_wide_1 x30 n32 a13).bind fun v37=>
   zCk F_law20_wide_1 k1 depth2 k18 v37 (i14+1)
  else
   some a13
def zCj(F_law20_wide_1:zLb->Int->Int->Option (Int))(k1:zLb)(depth2:Int):Nat->Int->Nat->Option (Int)
 |0,_,_=>none
 |k52+1,a47,i48=>
  if (ltI ((i48:Nat):Int) (k1.L.length:Int))&&(leI a47 400) then
   (k1.L[i48]?).bind fun x61=>
   (chk .i64 (depth2+1)).bind fun n63=>
   (F_law20_wide_1 x61 n63 a47).bind fun v68=>
   zCj F_law20_wide_1 k1 depth2 k52 v68 (i48+1)
  else
   some a47
def zBo:Nat->zLb->Int->Int->Option (Int)
 |0,_,_,_=>none
 |fuel+1,k1,depth2,c3=>
  (chk .i64 (c3+1)).bind fun n4=>
  if (ltI 20 depth2)||(ltI 10 (k1.L.length:Int)) then
   (zCk (zBo fuel) k1 depth2 fuel 1000 0).bind fun o15=>
   some o15
  else
   (zCj (zBo fuel) k1 depth2 fuel n4 0).bind fun o49=>
   some o49
def zCi(F_law20_wide_2:zLd->Int->Int->Option (Int))(c1:zLd)(depth2:Int):Nat->Int->Nat->Option (Int)
 |0,_,_=>none
 |k39+1,a34,i35=>
  if (ltI ((i35:Nat):Int) (c1.L.length:Int))&&(leI a34 400) then
   (c1.L[i35]?).bind fun x51=>
   (chk .i64 (depth2+1)).bind fun n53=>
   (F_law20_wide_2 x51 n53 a34).bind fun v58=>
   zCi F_law20_wide_2 c1 depth2 k39 v58 (i35+1)
  else
   some a34
def zCT:Nat->zLd->Int->Int->Option (Int)
 |0,_,_,_=>none
 |fuel+1,c1,depth2,c3=>
  (chk .i64 (c3+1)).bind fun n4=>
  (if ltI 50 depth2 then
   some true
  else if ltI 30 (c1.L.length:Int) then
   some true
  else if ltI 30 (c1.Names.length:Int) then
   some true
  else if ltI 100 (c1.S.length:Int) then
   some true
  else
   (zA7 fuel c1.Names).bind fun v27=>
   some v27:Option Bool).bind fun b29=>
  if b29 then
   some 1000
  else
   (zBo fuel c1.Kind 1 n4).bind fun v32=>
   (zCi (zCT fuel) c1 depth2 fuel v32 0).bind fun o36=>
   some o36
def zE4(fuel:Nat)(c1:zLd):Option (Bool):=
 (zCT fuel c1 1 0).bind fun v2=>
 some (ltI 400 v2)
def zEo(s1:(List UInt8)):Option (Bool):=
 some (ltI 100 (s1.length:Int))
def zAX(s1:(List (List UInt8))):Nat->Nat->Option ((Int) ⊕ (Unit))
 |0,_=>none
 |k7+1,i2=>
  if ltI ((i2:Nat):Int) (s1.length:Int) then
   (s1[i2]?).bind fun x11=>
   (zEo x11).bind fun v13=>
   if v13 then
    some (.inl ((i2:Nat):Int))
   else
    zAX s1 k7 (i2+1)
  else
   some (.inr ())
def zBl(fuel:Nat)(s1:(List (List UInt8))):Option (Int):=
 (zAX s1 fuel 0).bind fun o=>Sum.elim some (fun o3=>
  some (-1)) o
def zA9(fuel:Nat)(s1:(List (List UInt8))):Option (Bool):=
 (zBl fuel s1).bind fun v2=>
 some (leI 0 v2)
def zCl(F_law20_huge_1:zLZ->Int->Int->Option (Int))(v1:zLZ)(depth2:Int):Nat->Int->Nat->Option (Int)
 |0,_,_=>none
 |k37+1,a32,i33=>
  if (ltI ((i33:Nat):Int) (v1.L.length:Int))&&(leI a32 400) then
   (v1.L[i33]?).bind fun x49=>
   (chk .i64 (depth2+1)).bind fun n51=>
   (F_law20_huge_1 x49 n51 a32).bind fun v56=>
   zCl F_law20_huge_1 v1 depth2 k37 v56 (i33+1)
  else
   some a32
def zB6(F_law20_huge_1:zLZ->Int->Int->Option (Int))(v1:zLZ)(depth2:Int):Nat->Int->Nat->Option (Int)
 |0,_,_=>none
 |k66+1,a61,i62=>
  if (ltI ((i62:Nat):Int) (v1.L.length:Int))&&(leI a61 400) then
   (v1.L[i62]?).bind fun x78=>
   (chk .i64 (depth2+1)).bind fun n80=>
   (F_law20_huge_1 x78 n80 a61).bind fun v85=>
   zB6 F_law20_huge_1 v1 depth2 k66 v85 (i62+1)
  else
   some a61
def zBp:Nat->zLZ->Int->Int->Option (Int)
 |0,_,_,_=>none
 |fuel+1,v1,depth2,c3=>
  (chk .i64 (c3+1)).bind fun n4=>
  (if ltI 60 depth2 then
   some true
  else if ltI 30 (v1.L.length:Int) then
   some true
  else if ltI 30 (v1.Names.length:Int) then
   some true
  else if ltI 500 (v1.S.length:Int) then
   some true
  else
   (zA9 fuel v1.Names).bind fun v27=>
   some v27:Option Bool).bind fun b29=>
  if b29 then
   (zCl (zBp fuel) v1 depth2 fuel 1000 0).bind fun o34=>
   some o34
  else
   (zB6 (zBp fuel) v1 depth2 fuel n4 0).bind fun o63=>
   some o63
def zFm(fuel:Nat)(v1:zLZ):Option (Bool):=
 (zBp fuel v1 1 0).bind fun v2=>
 some (ltI 400 v2)
def zAv(fuel:Nat)(s1:(List zLc)):Nat->Nat->Option ((Int) ⊕ (Unit))
 |0,_=>none
 |k7+1,i2=>
  if ltI ((i2:Nat):Int) (s1.length:Int) then
   (s1[i2]?).bind fun x11=>
   (zEW fuel x11).bind fun v13=>
   if v13 then
    some (.inl ((i2:Nat):Int))
   else
    zAv fuel s1 k7 (i2+1)
  else
   some (.inr ())
def zB5(fuel:Nat)(s1:(List zLc)):Option (Int):=
 (zAv fuel s1 fuel 0).bind fun o=>Sum.elim some (fun o3=>
  some (-1)) o
def zBV(fuel:Nat)(s1:(List zLc)):Option (Bool):=
 (zB5 fuel s1).bind fun v2=>
 some (leI 0 v2)
def zDr(c1:UInt8):Option (Bool):=
 some ((leI 97 (c1.toNat:Int))&&(leI (c1.toNat:Int) 122))
def zDI(c1:UInt8):Option (Bool):=
 some ((leI 65 (c1.toNat:Int))&&(leI (c1.toNat:Int) 90))
def zHH(c1:UInt8):Option (Bool):=
 some ((leI 48 (c1.toNat:Int))&&(leI (c1.toNat:Int) 57))
def zEV(c1:UInt8):Option (Bool):=
 ((zDr c1).bind fun v2=>
 if v2 then
  some true
 else
  (zDI c1).bind fun v5=>
  if v5 then
   some true
  else
   (zHH c1).bind fun v8=>
   if v8 then
    some true
   else
    some (eqI (c1.toNat:Int) 95):Option Bool).bind fun b11=>
 some b11
def zCc(s1:(List UInt8)):Nat->Nat->Option ((Bool) ⊕ (Unit))
 |0,_=>none
 |k7+1,i2=>
  if ltI ((i2:Nat):Int) (s1.length:Int) then
   (s1[i2]?).bind fun c11=>
   (zEV c11).bind fun v13=>
   if !v13 then
    some (.inl false)
   else
    zCc s1 k7 (i2+1)
  else
   some (.inr ())
def zFL(fuel:Nat)(s1:(List UInt8)):Option (Bool):=
 (zCc s1 fuel 0).bind fun o=>Sum.elim some (fun o3=>
  some true) o
def zE2(fuel:Nat)(s1:(List UInt8)):Option (Bool):=
 (if leI 1 (s1.length:Int) then
  if leI (s1.length:Int) 24 then
   (zFL fuel s1).bind fun v7=>
   some v7
  else
   some false
 else
  some false:Option Bool).bind fun b12=>
 some b12
def zFk:Option ((List (List UInt8))):=
 (some [[97,110,100,97,108,115,111],[99,97,115,101],[100,97,116,97],[100,105,118],[101,108,115,101],[101,110,100],[102,110],[102,117,110],[102,117,110,99,116,111,114],[103,101,110,101,114,97,116,105,118,101],[105,102],[105,109,112,111,114,116],[105,110],[105,110,99,108,117,100,101],[108,101,116],[109,111,100],[109,111,100,117,108,101],[111,102],[111,112,101,110],[111,114,101,108,115,101],[112,97,99,107],[115,104,97,114,105,110,103],[115,105,103],[115,105,103,110,97,116,117,114,101],[115,116,114,117,99,116],[115,116,114,117,99,116,117,114,101],[116,104,101,110],[116,121,112,101],[117,110,112,97,99,107],[118,97,108],[119,105,116,104]]).bind fun l1=>
 some l1
def zCv(l1:(List (List UInt8)))(s2:(List UInt8)):Nat->Nat->Option ((Int) ⊕ (Unit))
 |0,_=>none
 |k8+1,i3=>
  if ltI ((i3:Nat):Int) (l1.length:Int) then
   (l1[i3]?).bind fun x12=>
   if eqS x12 s2 then
    some (.inl ((i3:Nat):Int))
   else
    zCv l1 s2 k8 (i3+1)
  else
   some (.inr ())
def zE3(fuel:Nat)(l1:(List (List UInt8)))(s2:(List UInt8)):Option (Int):=
 (zCv l1 s2 fuel 0).bind fun o=>Sum.elim some (fun o4=>
  some (-1)) o
def zEA(fuel:Nat)(s1:(List UInt8)):Option (Bool):=
 ((zE2 fuel s1).bind fun v2=>
 if v2 then
  (s1[0]?).bind fun c5=>
  (zDr c5).bind fun v7=>
  if v7 then
   (zFk).bind fun v10=>
   (zE3 fuel v10 s1).bind fun v12=>
   some (ltI v12 0)
  else
   some false
 else
  some false:Option Bool).bind fun b14=>
 some b14
def zD9(fuel:Nat)(s1:(List UInt8)):Option (Bool):=
 ((zE2 fuel s1).bind fun v2=>
 if v2 then
  (s1[0]?).bind fun c5=>
  (zDI c5).bind fun v7=>
  some v7
 else
  some false:Option Bool).bind fun b9=>
 some b9
def zFi(fuel:Nat)(p1:zLc):Option (Bool):=
 if if !(eqI p1.N 0) then (!(eqI p1.Op 3))||((!(eqS p1.S ([]:List UInt8)))&&((!(eqI p1.Op 2))&&(!(eqI p1.Op 4)))) else (!(eqS p1.S ([]:List UInt8)))&&((!(eqI p1.Op 2))&&(!(eqI p1.Op 4))) then
  some false
 else if eqI p1.Op 1 then
  some (eqI (p1.L.length:Int) 0)
 else if eqI p1.Op 2 then
  ((zEA fuel p1.S).bind fun v34=>
  if v34 then
   some (eqI (p1.L.length:Int) 0)
  else
   some false:Option Bool).bind fun b37=>
  some b37
 else if eqI p1.Op 3 then
  some ((leI (-4503599627370496) p1.N)&&((leI p1.N 4503599627370496)&&(eqI (p1.L.length:Int) 0)))
 else if eqI p1.Op 4 then
  ((zD9 fuel p1.S).bind fun v53=>
  if v53 then
   some (leI (p1.L.length:Int) 1)
  else
   some false:Option Bool).bind fun b56=>
  some b56
 else if eqI p1.Op 5 then
  some ((!(eqI (p1.L.length:Int) 1))&&(leI (p1.L.length:Int) 9))
 else
  some false
def zCD(F_ref20_count:zLc->Int->Int->Option (Int))(p1:zLc)(depth3:Int):Nat->Int->Nat->Option (Int)
 |0,_,_=>none
 |k25+1,left20,i21=>
  if (ltI ((i21:Nat):Int) (p1.L.length:Int))&&(leI 0 left20) then
   (p1.L[i21]?).bind fun x37=>
   (chk .i64 (depth3-1)).bind fun n39=>
   (F_ref20_count x37 left20 n39).bind fun v44=>
   zCD F_ref20_count p1 depth3 k25 v44 (i21+1)
  else
   some left20
def zCu:Nat->zLc->Int->Int->Option (Int)
 |0,_,_,_=>none
 |fuel+1,p1,left2,depth3=>
  (if ltI left2 1 then
   some true
  else if ltI depth3 1 then
   some true
  else
   (zFi fuel p1).bind fun v10=>
   some (!v10):Option Bool).bind fun b12=>
  if b12 then
   some (-1)
  else
   (chk .i64 (left2-1)).bind fun n15=>
   (zCD (zCu fuel) p1 depth3 fuel n15 0).bind fun o22=>
   some o22
def zCt(F_ref20_vars:(List (List UInt8))->zLc->Option ((List (List UInt8))))(p2:zLc):Nat->(List (List UInt8))->Nat->Option ((List (List UInt8)))
 |0,_,_=>none
 |k21+1,l16,i17=>
  if ltI ((i17:Nat):Int) (p2.L.length:Int) then
   (p2.L[i17]?).bind fun x25=>
   (F_ref20_vars l16 x25).bind fun v27=>
   zCt F_ref20_vars p2 k21 v27 (i17+1)
  else
   some l16
def zC4:Nat->(List (List UInt8))->zLc->Option ((List (List UInt8)))
 |0,_,_=>none
 |fuel+1,l1,p2=>
  if eqI p2.Op 2 then
   (app 16 ([]:List (List UInt8)) l1).bind fun l5=>
   (app 16 l5 [p2.S]).bind fun l9=>
   some l9
  else
   (zCt (zC4 fuel) p2 fuel l1 0).bind fun o18=>
   some o18
def zFj(fuel:Nat)(p1:zLc):Option ((List (List UInt8))):=
 (zC4 fuel ([]:List (List UInt8)) p1).bind fun v2=>
 some v2
def zCb(fuel:Nat)(v7:(List (List UInt8))):Nat->Nat->Option ((Bool) ⊕ (Unit))
 |0,_=>none
 |k14+1,i9=>
  if ltI ((i9:Nat):Int) (v7.length:Int) then
   (subC v7 0 ((i9:Nat):Int)).bind fun l18=>
   (v7[i9]?).bind fun x22=>
   (zE3 fuel l18 x22).bind fun v24=>
   if leI 0 v24 then
    some (.inl false)
   else
    zCb fuel v7 k14 (i9+1)
  else
   some (.inr ())
def zFK(fuel:Nat)(p1:zLc):Option (Bool):=
 (zCu fuel p1 20000 400).bind fun v2=>
 if ltI v2 0 then
  some false
 else
  (zFj fuel p1).bind fun v7=>
  (zCb fuel v7 fuel 0).bind fun o=>Sum.elim some (fun o10=>
   some true) o
def zCa(s1:(List zLc)):Option ((List zLc)):=
 (neC s1).bind fun u2=>
 (clC 56 s1).bind fun l5=>
 some l5
def zBQ:Nat->zLc->(List UInt8)->Option (zLc)
 |0,_,_=>none
 |fuel+1,p1,at2=>
  if (eqI (at2.length:Int) 0)||(eqI (p1.L.length:Int) 0) then
   some (zLc.mk 1 0 ([]:List UInt8) ([]:List zLc))
  else
   (at2[0]?).bind fun x11=>
   (modC .i64 (Int.tmod (x11.toNat:Int) (p1.L.length:Int)) (p1.L.length:Int)).bind fun n14=>
   (zCa p1.L).bind fun v18=>
   (ixC v18 n14).bind fun u20=>
   (v18[Int.toNat n14]?).bind fun x24=>
   (subC at2 1 (at2.length:Int)).bind fun l29=>
   ((zBQ fuel) x24 l29).bind fun v33=>
   (ixC v18 n14).bind fun u35=>
   (v18[(Int.toNat n14)]?).bind fun x39=>
   some (zLc.mk p1.Op p1.N p1.S (v18.set (Int.toNat n14) v33))
def zDd(c1:UInt8):Option (Int):=
 if (leI 97 (c1.toNat:Int))&&(leI (c1.toNat:Int) 122) then
  some 1
 else if (leI 65 (c1.toNat:Int))&&(leI (c1.toNat:Int) 90) then
  some 2
 else if (leI 48 (c1.toNat:Int))&&(leI (c1.toNat:Int) 57) then
  some 3
 else if eqI (c1.toNat:Int) 95 then
  some 4
 else if eqI (c1.toNat:Int) 46 then
  some 5
 else
  some 0
def zCy(l16:(List UInt8)):Nat->Nat->Option ((Bool) ⊕ (Unit))
 |0,_=>none
 |k25+1,i20=>
  if ltI ((i20:Nat):Int) (l16.length:Int) then
   (l16[i20]?).bind fun x29=>
   (zDd x29).bind fun v31=>
   if (eqI v31 0)||(eqI v31 5) then
    some (.inl false)
   else
    zCy l16 k25 (i20+1)
  else
   some (.inr ())
def zDv(fuel:Nat)(s1:(List UInt8))(first2:Int):Option (Bool):=
 (if eqS s1 ([]:List UInt8) then
  some true
 else if ltI 24 (s1.length:Int) then
  some true
 else
  (s1[0]?).bind fun c9=>
  (zDd c9).bind fun v11=>
  some (!(eqI v11 first2)):Option Bool).bind fun b13=>
 if b13 then
  some false
 else
  (zLQ s1).bind fun l16=>
  (zCy l16 fuel 0).bind fun o=>Sum.elim some (fun o21=>
   some true) o
def zDP(s:List UInt8):Option (List (List UInt8)):=if s.length<4294967281∧s.all (fun c=>decide (c.toNat<128))=true∧(Lib.fields s).length<=100000∧(Lib.fields s).all (fun z=>decide (z.length<=100000))=true then some (Lib.fields s) else none
def zBP(s1:(List (List UInt8)))(v2:(List UInt8)):Nat->Nat->Option ((Int) ⊕ (Unit))
 |0,_=>none
 |k8+1,i3=>
  if ltI ((i3:Nat):Int) (s1.length:Int) then
   (s1[i3]?).bind fun x12=>
   if eqS v2 x12 then
    some (.inl ((i3:Nat):Int))
   else
    zBP s1 v2 k8 (i3+1)
  else
   some (.inr ())
def zDN(fuel:Nat)(s1:(List (List UInt8)))(v2:(List UInt8)):Option (Int):=
 (zBP s1 v2 fuel 0).bind fun o=>Sum.elim some (fun o4=>
  some (-1)) o
def zB0(fuel:Nat)(s1:(List (List UInt8)))(v2:(List UInt8)):Option (Bool):=
 (zDN fuel s1 v2).bind fun v3=>
 some (leI 0 v3)
def zFn(fuel:Nat)(s1:(List UInt8)):Option (Bool):=
 (zDP [97,110,100,97,108,115,111,32,99,97,115,101,32,100,97,116,97,32,100,105,118,32,101,108,115,101,32,101,110,100,32,102,110,32,102,117,110,32,102,117,110,99,116,111,114,32,103,101,110,101,114,97,116,105,118,101,32,105,102,32,105,109,112,111,114,116,32,105,110,32,105,110,99,108,117,100,101,32,108,101,116,32,109,111,100,32,109,111,100,117,108,101,32,111,102,32,111,112,101,110,32,111,114,101,108,115,101,32,112,97,99,107,32,115,104,97,114,105,110,103,32,115,105,103,32,115,105,103,110,97,116,117,114,101,32,115,116,114,117,99,116,32,115,116,114,117,99,116,117,114,101,32,116,104,101,110,32,116,121,112,101,32,117,110,112,97,99,107,32,118,97,108,32,119,105,116,104]).bind fun v2=>
 (zB0 fuel v2 s1).bind fun v4=>
 some v4
def zEC(fuel:Nat)(s1:(List UInt8)):Option (Bool):=
 ((zDv fuel s1 1).bind fun v2=>
 if v2 then
  (zFn fuel s1).bind fun v5=>
  some (!v5)
 else
  some false:Option Bool).bind fun b7=>
 some b7
def zDi(fuel:Nat)(s1:(List UInt8)):Option (Bool):=
 (zDv fuel s1 2).bind fun v2=>
 some v2
def zEn(fuel:Nat)(p1:zLc):Option (Bool):=
 if eqI p1.Op 1 then
  some ((eqI (p1.L.length:Int) 0)&&((eqI p1.N 0)&&(eqS p1.S ([]:List UInt8))))
 else if eqI p1.Op 2 then
  (if eqI (p1.L.length:Int) 0 then
   if eqI p1.N 0 then
    (zEC fuel p1.S).bind fun v17=>
    some v17
   else
    some false
  else
   some false:Option Bool).bind fun b21=>
  some b21
 else if eqI p1.Op 3 then
  some ((eqI (p1.L.length:Int) 0)&&((eqS p1.S ([]:List UInt8))&&((leI (-4503599627370496) p1.N)&&(leI p1.N 4503599627370496))))
 else if eqI p1.Op 4 then
  (if leI (p1.L.length:Int) 1 then
   if eqI p1.N 0 then
    (zDi fuel p1.S).bind fun v42=>
    some v42
   else
    some false
  else
   some false:Option Bool).bind fun b47=>
  some b47
 else if eqI p1.Op 5 then
  some ((!(eqI (p1.L.length:Int) 1))&&((leI (p1.L.length:Int) 9)&&((eqI p1.N 0)&&(eqS p1.S ([]:List UInt8)))))
 else
  some false
def zBq(F_pattern_measure:zLc->Int->Int->Option (Int×Bool))(p1:zLc)(left2:Int)(depth3:Int):Nat->Int->Nat->Option ((Int×Bool) ⊕ (Int))
 |0,_,_=>none
 |k21+1,n15,i16=>
  if ltI ((i16:Nat):Int) (p1.L.length:Int) then
   (p1.L[i16]?).bind fun x25=>
   (chk .i64 (left2-n15)).bind fun n27=>
   (chk .i64 (depth3+1)).bind fun n32=>
   (F_pattern_measure x25 n27 n32).bind fun v37=>
   if !v37.2 then
    some (.inl (0,false))
   else
    (chk .i64 (n15+v37.1)).bind fun n42=>
    zBq F_pattern_measure p1 left2 depth3 k21 n42 (i16+1)
  else
   some (.inr n15)
def zBt:Nat->zLc->Int->Int->Option (Int×Bool)
 |0,_,_,_=>none
 |fuel+1,p1,left2,depth3=>
  (if leI left2 0 then
   some true
  else if ltI 400 depth3 then
   some true
  else
   (zEn fuel p1).bind fun v10=>
   some (!v10):Option Bool).bind fun b12=>
  if b12 then
   some (0,false)
  else
   (zBq (zBt fuel) p1 left2 depth3 fuel 1 0).bind fun o=>Sum.elim some (fun o17=>
    some (o17,true)) o
def zEE(name1:(List UInt8))(c2:Bool)(c3:(List (List UInt8×Bool))):Option (Bool×(List (List UInt8×Bool))):=
 some (c2&&(!(mgetD c3 name1 false)),mput c3 name1 true)
def zAl(F_pattern_variables_Valid_1:zLc->Bool->(List (List UInt8×Bool))->Option (Bool×(List (List UInt8×Bool))))(p1:zLc):Nat->Bool->(List (List UInt8×Bool))->Nat->Option (Bool×(List (List UInt8×Bool)))
 |0,_,_,_=>none
 |k14+1,a8,a9,i10=>
  if ltI ((i10:Nat):Int) (p1.L.length:Int) then
   (p1.L[i10]?).bind fun x18=>
   (F_pattern_variables_Valid_1 x18 a8 a9).bind fun v20=>
   zAl F_pattern_variables_Valid_1 p1 k14 v20.1 v20.2 (i10+1)
  else
   some (a8,a9)
def zAu(F_pattern_variables_Valid_1:zLc->Bool->(List (List UInt8×Bool))->Option (Bool×(List (List UInt8×Bool))))(p1:zLc):Nat->Bool->(List (List UInt8×Bool))->Nat->Option (Bool×(List (List UInt8×Bool)))
 |0,_,_,_=>none
 |k37+1,a31,a32,i33=>
  if ltI ((i33:Nat):Int) (p1.L.length:Int) then
   (p1.L[i33]?).bind fun x41=>
   (F_pattern_variables_Valid_1 x41 a31 a32).bind fun v43=>
   zAu F_pattern_variables_Valid_1 p1 k37 v43.1 v43.2 (i33+1)
  else
   some (a31,a32)
def zAL:Nat->zLc->Bool->(List (List UInt8×Bool))->Option (Bool×(List (List UInt8×Bool)))
 |0,_,_,_=>none
 |fuel+1,p1,c2,c3=>
  if eqI p1.Op 2 then
   (zEE p1.S c2 c3).bind fun v6=>
   (zAl (zAL fuel) p1 fuel v6.1 v6.2 0).bind fun o11=>
   some (o11.1,o11.2)
  else
   (zAu (zAL fuel) p1 fuel c2 c3 0).bind fun o34=>
   some (o34.1,o34.2)
def zB8(fuel:Nat)(p1:zLc):Option (Bool):=
 (zBt fuel p1 20000 1).bind fun v2=>
 if !v2.2 then
  some false
 else
  (zAL fuel p1 true ([]:List (List UInt8×Bool))).bind fun v7=>
  some v7.1
def zAZ(F_pattern_covers:zLc->zLc->Option (Bool))(s11:(List zLc))(s22:(List zLc)):Nat->Nat->Option ((Bool) ⊕ (Unit))
 |0,_=>none
 |k13+1,i8=>
  if ltI ((i8:Nat):Int) (s11.length:Int) then
   (s11[i8]?).bind fun x17=>
   (s22[i8]?).bind fun x19=>
   (F_pattern_covers x17 x19).bind fun v21=>
   if !v21 then
    some (.inl false)
   else
    zAZ F_pattern_covers s11 s22 k13 (i8+1)
  else
   some (.inr ())
mutual
def zBU:Nat->(List zLc)->(List zLc)->Option (Bool)
 |0,_,_=>none
 |fuel+1,s11,s22=>
  if !(eqI (s11.length:Int) (s22.length:Int)) then
   some false
  else
   (zAZ (zB3 fuel) s11 s22 fuel 0).bind fun o=>Sum.elim some (fun o9=>
    some true) o
def zB3:Nat->zLc->zLc->Option (Bool)
 |0,_,_=>none
 |fuel+1,p1,q2=>
  if (eqI p1.Op 1)||(eqI p1.Op 2) then
   some true
  else
   (if eqI p1.Op q2.Op then
    if eqI p1.N q2.N then
     if eqS p1.S q2.S then
      ((zBU fuel) p1.L q2.L).bind fun v16=>
      some v16
     else
      some false
    else
     some false
   else
    some false:Option Bool).bind fun b20=>
   some b20
end
def zDs(fuel:Nat)(p1:zLc)(q2:zLc):Option (Bool×Int):=
 ((zB8 fuel p1).bind fun v3=>
 if !v3 then
  some true
 else
  (zB8 fuel q2).bind fun v8=>
  some (!v8):Option Bool).bind fun b10=>
 if b10 then
  some (false,1)
 else
  (zB3 fuel p1 q2).bind fun v13=>
  some (v13,0)
def zDH(F_tycon_Size:zLd->Option (Int))(c1:zLd):Nat->Int->Nat->Option (Int)
 |0,_,_=>none
 |k7+1,n2,i3=>
  if ltI ((i3:Nat):Int) (c1.L.length:Int) then
   (c1.L[i3]?).bind fun x11=>
   (F_tycon_Size x11).bind fun v13=>
   (chk .i64 (n2+v13)).bind fun n15=>
   zDH F_tycon_Size c1 k7 n15 (i3+1)
  else
   some n2
def zCN:Nat->zLd->Option (Int)
 |0,_=>none
 |fuel+1,c1=>
  (zDH (zCN fuel) c1 fuel 1 0).bind fun o4=>
  some o4
def zC3(F_tycon_depth:zLd->Option (Int))(c1:zLd):Nat->Int->Nat->Option (Int)
 |0,_,_=>none
 |k7+1,n2,i3=>
  if ltI ((i3:Nat):Int) (c1.L.length:Int) then
   (c1.L[i3]?).bind fun x11=>
   (F_tycon_depth x11).bind fun v13=>
   zC3 F_tycon_depth c1 k7 (maxI n2 v13) (i3+1)
  else
   some n2
def zCs:Nat->zLd->Option (Int)
 |0,_=>none
 |fuel+1,c1=>
  (zC3 (zCs fuel) c1 fuel 0 0).bind fun o4=>
  (chk .i64 (o4+1)).bind fun n20=>
  some n20
def zBN(c1:zLd):Option (Bool):=
 some ((eqI c1.Op 7)||(eqI c1.Op 8))
def zBO(c1:zLd):Option (Bool):=
 some ((eqI c1.Op 9)||((eqI c1.Op 10)||((eqI c1.Op 11)||(eqI c1.Op 13))))
def zCr(c1:zLd):Option (Int):=
 if (ltI c1.Op 1)||(ltI 13 c1.Op) then
  some (-1)
 else
  (zBN c1).bind fun v10=>
  if v10 then
   some (c1.Names.length:Int)
  else
   (zBO c1).bind fun v13=>
   if v13 then
    some 1
   else if (eqI c1.Op 6)||(eqI c1.Op 12) then
    some 2
   else
    some 0
def zFJ(s t:List UInt8):Option (List UInt8×List UInt8×Bool):=if s.length<4294967281 then some (Lib.cut s t) else none
def zEm(s:List UInt8):Option (Int×Bool):=if s.length<=1000000 then (match Lib.atoiAll s with
 |.ok v=>some (v,false)
 |.range=>some (Lib.atoiSat s,true)
 |_=>some (0,true)) else none
def zCI(l13:(List UInt8)):Nat->Nat->Option ((Int×Int) ⊕ (Unit))
 |0,_=>none
 |k22+1,i17=>
  if ltI ((i17:Nat):Int) (l13.length:Int) then
   (l13[i17]?).bind fun x26=>
   (zDd x26).bind fun v28=>
   if !(eqI v28 3) then
    some (.inl (0,3))
   else
    zCI l13 k22 (i17+1)
  else
   some (.inr ())
def zEp(fuel:Nat)(s1:(List UInt8)):Option (Int×Int):=
 (if eqS s1 ([]:List UInt8) then
  some true
 else if ltI 1 (s1.length:Int) then
  (s1[0]?).bind fun c6=>
  some (eqI (c6.toNat:Int) 48)
 else
  some false:Option Bool).bind fun b10=>
 if b10 then
  some (0,3)
 else
  (zLQ s1).bind fun l13=>
  (zCI l13 fuel 0).bind fun o=>Sum.elim some (fun o18=>
   (zEm s1).bind fun v40=>
   if v40.2 then
    some (0,6)
   else if ltI 4503599627370496 v40.1 then
    some (0,6)
   else
    some (v40.1,0)) o
def zCZ(fuel:Nat)(s1:(List UInt8)):Option (Bool):=
 (zFJ s1 [46]).bind fun v2=>
 (zEp fuel v2.2.1).bind fun v4=>
 (if v2.2.2 then
  if leI (s1.length:Int) 48 then
   (zDi fuel v2.1).bind fun v10=>
   if v10 then
    some (eqI v4.2 0)
   else
    some false
  else
   some false
 else
  some false:Option Bool).bind fun b15=>
 some b15
def zDZ(F_kind_size:zLb->Int->Int->Option (Int×Bool))(k1:zLb)(left2:Int)(depth3:Int):Nat->Int->Nat->Option ((Int×Bool) ⊕ (Int))
 |0,_,_=>none
 |k28+1,n22,i23=>
  if ltI ((i23:Nat):Int) (k1.L.length:Int) then
   (k1.L[i23]?).bind fun x32=>
   (chk .i64 (left2-n22)).bind fun n34=>
   (chk .i64 (depth3+1)).bind fun n39=>
   (F_kind_size x32 n34 n39).bind fun v44=>
   if !v44.2 then
    some (.inl (0,false))
   else
    (chk .i64 (n22+v44.1)).bind fun n49=>
    zDZ F_kind_size k1 left2 depth3 k28 n49 (i23+1)
  else
   some (.inr n22)
def zDh:Nat->zLb->Int->Int->Option (Int×Bool)
 |0,_,_,_=>none
 |fuel+1,k1,left2,depth3=>
  if (leI left2 0)||((ltI 400 depth3)||((!(eqI (k1.L.length:Int) 0))&&(!(eqI (k1.L.length:Int) 2)))) then
   some (0,false)
  else
   (zDZ (zDh fuel) k1 left2 depth3 fuel 1 0).bind fun o=>Sum.elim some (fun o24=>
    some (o24,true)) o
def zDu(fuel:Nat)(k1:zLb):Option (Bool):=
 (zDh fuel k1 20000 1).bind fun v2=>
 some v2.2
def zAx(l1:(List (List UInt8))):Nat->Nat->Option ((Bool) ⊕ (Unit))
 |0,_=>none
 |k7+1,i2=>
  if ltI ((i2:Nat):Int) (l1.length:Int) then
   (idx l1 (((i2:Nat):Int)-1)).bind fun x12=>
   (l1[i2]?).bind fun x16=>
   if !(ltS x12 x16) then
    some (.inl false)
   else
    zAx l1 k7 (i2+1)
  else
   some (.inr ())
def zA5(fuel:Nat)(l1:(List (List UInt8))):Option (Bool):=
 (zAx l1 fuel 1).bind fun o=>Sum.elim some (fun o3=>
  some true) o
def zBd(l8:(List UInt8)):Nat->Nat->Option ((Bool) ⊕ (Unit))
 |0,_=>none
 |k17+1,i12=>
  if ltI ((i12:Nat):Int) (l8.length:Int) then
   (l8[i12]?).bind fun x21=>
   (zDd x21).bind fun v23=>
   if eqI v23 0 then
    some (.inl false)
   else
    zBd l8 k17 (i12+1)
  else
   some (.inr ())
def zCU(fuel:Nat)(s1:(List UInt8)):Option (Bool):=
 if (eqS s1 ([]:List UInt8))||(ltI 48 (s1.length:Int)) then
  some false
 else
  (zLQ s1).bind fun l8=>
  (zBd l8 fuel 0).bind fun o=>Sum.elim some (fun o13=>
   some true) o
def zDq(fuel:Nat)(s1:(List UInt8)):Option (Bool):=
 (zCU fuel s1).bind fun v2=>
 some (!v2)
def zAi(fuel:Nat)(s1:(List (List UInt8))):Nat->Nat->Option ((Int) ⊕ (Unit))
 |0,_=>none
 |k7+1,i2=>
  if ltI ((i2:Nat):Int) (s1.length:Int) then
   (s1[i2]?).bind fun x11=>
   (zDq fuel x11).bind fun v13=>
   if v13 then
    some (.inl ((i2:Nat):Int))
   else
    zAi fuel s1 k7 (i2+1)
  else
   some (.inr ())
def zBm(fuel:Nat)(s1:(List (List UInt8))):Option (Int):=
 (zAi fuel s1 fuel 0).bind fun o=>Sum.elim some (fun o3=>
  some (-1)) o
def zAI(fuel:Nat)(s1:(List (List UInt8))):Option (Bool):=
 (zBm fuel s1).bind fun v2=>
 some (leI 0 v2)
def zAe(F_tycon_formed_2:zLd->Option (Bool))(s1:(List zLd)):Nat->Nat->Option ((Int) ⊕ (Unit))
 |0,_=>none
 |k7+1,i2=>
  if ltI ((i2:Nat):Int) (s1.length:Int) then
   (s1[i2]?).bind fun x11=>
   (F_tycon_formed_2 x11).bind fun v13=>
   if v13 then
    some (.inl ((i2:Nat):Int))
   else
    zAe F_tycon_formed_2 s1 k7 (i2+1)
  else
   some (.inr ())
mutual
def zCY:Nat->zLd->Option (Bool)
 |0,_=>none
 |fuel+1,x1=>
  ((zDE fuel) x1).bind fun v2=>
  some (!v2)
def zBF:Nat->(List zLd)->Option (Int)
 |0,_=>none
 |fuel+1,s1=>
  (zAe (zCY fuel) s1 fuel 0).bind fun o=>Sum.elim some (fun o3=>
   some (-1)) o
def zAM:Nat->(List zLd)->Option (Bool)
 |0,_=>none
 |fuel+1,s1=>
  ((zBF fuel) s1).bind fun v2=>
  some (leI 0 v2)
def zDE:Nat->zLd->Option (Bool)
 |0,_=>none
 |fuel+1,c1=>
  (zCr c1).bind fun v2=>
  if !(eqI (c1.L.length:Int) v2) then
   some false
  else if eqI c1.Op 1 then
   if (ltI c1.N 0)||(ltI 20000 c1.N) then
    some false
   else
    (if eqI c1.Op 2 then
     (zCZ fuel c1.S).bind fun v21=>
     if !v21 then
      some true
     else
      some false
    else
     some (!(eqS c1.S ([]:List UInt8))):Option Bool).bind fun b27=>
    if b27 then
     some false
    else
     ((zBO c1).bind fun v30=>
     if v30 then
      some true
     else
      some (eqI c1.Op 2):Option Bool).bind fun b33=>
     (if b33 then
      (zDu fuel c1.Kind).bind fun v36=>
      if !v36 then
       some true
      else
       some false
     else
      some (ltI 0 (c1.Kind.L.length:Int)):Option Bool).bind fun b41=>
     if b41 then
      some false
     else
      (if ltI 0 (c1.Names.length:Int) then
       (zBN c1).bind fun v47=>
       if !v47 then
        some true
       else if ltI 1000 (c1.Names.length:Int) then
        some true
       else
        (zA5 fuel c1.Names).bind fun v55=>
        if !v55 then
         some true
        else
         (zAI fuel c1.Names).bind fun v60=>
         some v60
      else if ltI 1000 (c1.Names.length:Int) then
       some true
      else
       (zA5 fuel c1.Names).bind fun v67=>
       if !v67 then
        some true
       else
        (zAI fuel c1.Names).bind fun v72=>
        some v72:Option Bool).bind fun b74=>
      if b74 then
       some false
      else
       ((zAM fuel) c1.L).bind fun v77=>
       some (!v77)
  else if eqI c1.Op 3 then
   if (ltI c1.N 0)||(ltI 20000 c1.N) then
    some false
   else
    (if eqI c1.Op 2 then
     (zCZ fuel c1.S).bind fun v109=>
     if !v109 then
      some true
     else
      some false
    else
     some (!(eqS c1.S ([]:List UInt8))):Option Bool).bind fun b115=>
    if b115 then
     some false
    else
     ((zBO c1).bind fun v118=>
     if v118 then
      some true
     else
      some (eqI c1.Op 2):Option Bool).bind fun b121=>
     (if b121 then
      (zDu fuel c1.Kind).bind fun v124=>
      if !v124 then
       some true
      else
       some false
     else
      some (ltI 0 (c1.Kind.L.length:Int)):Option Bool).bind fun b129=>
     if b129 then
      some false
     else
      (if ltI 0 (c1.Names.length:Int) then
       (zBN c1).bind fun v135=>
       if !v135 then
        some true
       else if ltI 1000 (c1.Names.length:Int) then
        some true
       else
        (zA5 fuel c1.Names).bind fun v143=>
        if !v143 then
         some true
        else
         (zAI fuel c1.Names).bind fun v148=>
         some v148
      else if ltI 1000 (c1.Names.length:Int) then
       some true
      else
       (zA5 fuel c1.Names).bind fun v155=>
       if !v155 then
        some true
       else
        (zAI fuel c1.Names).bind fun v160=>
        some v160:Option Bool).bind fun b162=>
      if b162 then
       some false
      else
       ((zAM fuel) c1.L).bind fun v165=>
       some (!v165)
  else if !(eqI c1.N 0) then
   some false
  else
   (if eqI c1.Op 2 then
    (zCZ fuel c1.S).bind fun v192=>
    if !v192 then
     some true
    else
     some false
   else
    some (!(eqS c1.S ([]:List UInt8))):Option Bool).bind fun b198=>
   if b198 then
    some false
   else
    ((zBO c1).bind fun v201=>
    if v201 then
     some true
    else
     some (eqI c1.Op 2):Option Bool).bind fun b204=>
    (if b204 then
     (zDu fuel c1.Kind).bind fun v207=>
     if !v207 then
      some true
     else
      some false
    else
     some (ltI 0 (c1.Kind.L.length:Int)):Option Bool).bind fun b212=>
    if b212 then
     some false
    else
     (if ltI 0 (c1.Names.length:Int) then
      (zBN c1).bind fun v218=>
      if !v218 then
       some true
      else if ltI 1000 (c1.Names.length:Int) then
       some true
      else
       (zA5 fuel c1.Names).bind fun v226=>
       if !v226 then
        some true
       else
        (zAI fuel c1.Names).bind fun v231=>
        some v231
     else if ltI 1000 (c1.Names.length:Int) then
      some true
     else
      (zA5 fuel c1.Names).bind fun v238=>
      if !v238 then
       some true
      else
       (zAI fuel c1.Names).bind fun v243=>
       some v243:Option Bool).bind fun b245=>
     if b245 then
      some false
     else
      ((zAM fuel) c1.L).bind fun v248=>
      some (!v248)
end
def zBZ(fuel:Nat)(c1:zLd):Option (Bool):=
 ((zCN fuel c1).bind fun v2=>
 if leI v2 20000 then
  (zCs fuel c1).bind fun v6=>
  if leI v6 400 then
   (zDE fuel c1).bind fun v10=>
   some v10
  else
   some false
 else
  some false:Option Bool).bind fun b14=>
 some b14
def zC5(F_normal_size:zLd->Option (Int×Int))(c1:zLd):Nat->Int->Int->Nat->Option (Int×Int)
 |0,_,_,_=>none
 |k8+1,nodes2,depth3,i4=>
  if ltI ((i4:Nat):Int) (c1.L.length:Int) then
   (c1.L[i4]?).bind fun x12=>
   (F_normal_size x12).bind fun v14=>
   (chk .i64 (nodes2+v14.1)).bind fun n16=>
   zC5 F_normal_size c1 k8 n16 (maxI depth3 v14.2) (i4+1)
  else
   some (depth3,nodes2)
def zCw:Nat->zLd->Option (Int×Int)
 |0,_=>none
 |fuel+1,c1=>
  (zC5 (zCw fuel) c1 fuel 1 0 0).bind fun o5=>
  (chk .i64 (o5.1+1)).bind fun n28=>
  some (o5.2,n28)
def zCE(fuel:Nat)(c1:zLd)(w2:zLY):Option (zLd×zLY):=
 if w2.over then
  some ((zLd.mk 0 0 ([]:List UInt8) (zLb.mk ([]:List zLb)) ([]:List (List UInt8)) ([]:List zLd)),w2)
 else
  (zCw fuel c1).bind fun v4=>
  if (ltI 20000 v4.1)||(ltI 400 v4.2) then
   some ((zLd.mk 0 0 ([]:List UInt8) (zLb.mk ([]:List zLb)) ([]:List (List UInt8)) ([]:List zLd)),(zLY.mk w2.steps true))
  else
   some (c1,w2)
def zFH(fuel:Nat)(c1:zLd):Option (Bool):=
 (zBZ fuel c1).bind fun v2=>
 some (!v2)
def zAn(fuel:Nat)(s1:(List zLd)):Nat->Nat->Option ((Int) ⊕ (Unit))
 |0,_=>none
 |k7+1,i2=>
  if ltI ((i2:Nat):Int) (s1.length:Int) then
   (s1[i2]?).bind fun x11=>
   (zFH fuel x11).bind fun v13=>
   if v13 then
    some (.inl ((i2:Nat):Int))
   else
    zAn fuel s1 k7 (i2+1)
  else
   some (.inr ())
def zBz(fuel:Nat)(s1:(List zLd)):Option (Int):=
 (zAn fuel s1 fuel 0).bind fun o=>Sum.elim some (fun o3=>
  some (-1)) o
def zBc(fuel:Nat)(s1:(List zLd)):Option (Bool):=
 (zBz fuel s1).bind fun v2=>
 some (leI 0 v2)
def zGJ(fuel:Nat)(l1:(List zLd)):Option (Bool):=
 (zBc fuel l1).bind fun v2=>
 some (!v2)
def zCh(F_tycon_kindOf:zLb->Option (zLb))(k1:zLb):Nat->(List zLb)->Nat->Option ((List zLb))
 |0,_,_=>none
 |k7+1,L2,i3=>
  if ltI ((i3:Nat):Int) (k1.L.length:Int) then
   (k1.L[i3]?).bind fun x11=>
   (F_tycon_kindOf x11).bind fun v13=>
   (app 24 L2 [v13]).bind fun l15=>
   zCh F_tycon_kindOf k1 k7 l15 (i3+1)
  else
   some L2
def zBy:Nat->zLb->Option (zLb)
 |0,_=>none
 |fuel+1,k1=>
  (zCh (zBy fuel) k1 fuel ([]:List zLb) 0).bind fun o4=>
  some (zLb.mk o4)
def zDX(fuel:Nat)(c1:zLd):Option (zLd):=
 (zBy fuel c1.Kind).bind fun v2=>
 some (zLd.mk c1.Op c1.N c1.S v2 ([]:List (List UInt8)) ([]:List zLd))
def zEk(n1:Int):Option (zLd):=
 some (zLd.mk 1 n1 ([]:List UInt8) (zLb.mk ([]:List zLb)) ([]:List (List UInt8)) ([]:List zLd))
def zE9(by1:Int)(from2:Int):Option (Int×Int):=
 some (from2,by1)
def zDb(fuel:Nat)(c1:zLd)(binders2:Int)(a3:Int)(a4:Int):Option (zLd):=
 (if eqI c1.Op 1 then
  (chk .i64 (c1.N-binders2)).bind fun n7=>
  some (leI a3 n7)
 else
  some false:Option Bool).bind fun b13=>
 if b13 then
  (chk .i64 (c1.N+a4)).bind fun n16=>
  (zEk n16).bind fun v21=>
  some v21
 else
  (zDX fuel c1).bind fun v24=>
  some v24
def zBC(s1:List (List UInt8)):Option (List (List UInt8)):=match s1 with
 |[]=>some []
 |x::s=>clC 16 (x::s)
def zBJ(F_tycon_maker_rebuild_v2:zLd->Int->Int->Int->Int->Option (zLd×Int))(c1:zLd)(c3:Int)(c4:Int)(n40:Int):Nat->Int->(List zLd)->Nat->Option (Int×(List zLd))
 |0,_,_,_=>none
 |k51+1,left45,L46,i47=>
  if ltI ((i47:Nat):Int) (c1.L.length:Int) then
   (c1.L[i47]?).bind fun x55=>
   (F_tycon_maker_rebuild_v2 x55 n40 c3 c4 left45).bind fun v57=>
   (app 104 L46 [v57.1]).bind fun l59=>
   zBJ F_tycon_maker_rebuild_v2 c1 c3 c4 n40 k51 v57.2 l59 (i47+1)
  else
   some (left45,L46)
def zBI(F_tycon_maker_rebuild_v2:zLd->Int->Int->Int->Int->Option (zLd×Int))(c1:zLd)(binders2:Int)(c3:Int)(c4:Int):Nat->Int->(List zLd)->Nat->Option (Int×(List zLd))
 |0,_,_,_=>none
 |k76+1,left70,L71,i72=>
  if ltI ((i72:Nat):Int) (c1.L.length:Int) then
   (c1.L[i72]?).bind fun x80=>
   (F_tycon_maker_rebuild_v2 x80 binders2 c3 c4 left70).bind fun v82=>
   (app 104 L71 [v82.1]).bind fun l84=>
   zBI F_tycon_maker_rebuild_v2 c1 binders2 c3 c4 k76 v82.2 l84 (i72+1)
  else
   some (left70,L71)
def zAT:Nat->zLd->Int->Int->Int->Int->Option (zLd×Int)
 |0,_,_,_,_,_=>none
 |fuel+1,c1,binders2,c3,c4,c5=>
  if leI c5 0 then
   some ((zLd.mk 0 0 ([]:List UInt8) (zLb.mk ([]:List zLb)) ([]:List (List UInt8)) ([]:List zLd)),(-1))
  else if (eqI c1.Op 1)||(eqI c1.Op 2) then
   (zDb fuel c1 binders2 c3 c4).bind fun v13=>
   (zCN fuel v13).bind fun v15=>
   (chk .i64 (c5-v15)).bind fun n17=>
   some (v13,n17)
  else
   (chk .i64 (c5-1)).bind fun n28=>
   (zBy fuel c1.Kind).bind fun v33=>
   (zBC c1.Names).bind fun v35=>
   (zBO c1).bind fun v37=>
   if v37 then
    (chk .i64 (binders2+1)).bind fun n40=>
    (zBJ (zAT fuel) c1 c3 c4 n40 fuel n28 ([]:List zLd) 0).bind fun o48=>
    some ((zLd.mk c1.Op c1.N c1.S v33 v35 o48.2),o48.1)
   else
    (zBI (zAT fuel) c1 binders2 c3 c4 fuel n28 ([]:List zLd) 0).bind fun o73=>
    some ((zLd.mk c1.Op c1.N c1.S v33 v35 o73.2),o73.1)
def zD7(fuel:Nat)(c1:zLd)(binders2:Int)(c3:(List zLd)):Option (zLd):=
 (chk .i64 (c1.N-binders2)).bind fun n4=>
 if (!(eqI c1.Op 1))||(ltI n4 0) then
  (zDX fuel c1).bind fun v15=>
  some v15
 else if leI (c3.length:Int) n4 then
  (chk .i64 (c1.N-(c3.length:Int))).bind fun n26=>
  (zEk n26).bind fun v31=>
  some v31
 else
  (zE9 binders2 0).bind fun v36=>
  (idx c3 n4).bind fun x38=>
  (zAT fuel x38 0 v36.1 v36.2 20000).bind fun v42=>
  some v42.1
def zBb(F_tycon_maker_rebuild:zLd->Int->Int->(List zLd)->Option (zLd×Int))(c1:zLd)(c4:(List zLd))(n39:Int):Nat->Int->(List zLd)->Nat->Option (Int×(List zLd))
 |0,_,_,_=>none
 |k50+1,left44,L45,i46=>
  if ltI ((i46:Nat):Int) (c1.L.length:Int) then
   (c1.L[i46]?).bind fun x54=>
   (F_tycon_maker_rebuild x54 n39 left44 c4).bind fun v56=>
   (app 104 L45 [v56.1]).bind fun l58=>
   zBb F_tycon_maker_rebuild c1 c4 n39 k50 v56.2 l58 (i46+1)
  else
   some (left44,L45)
def zBa(F_tycon_maker_rebuild:zLd->Int->Int->(List zLd)->Option (zLd×Int))(c1:zLd)(binders2:Int)(c4:(List zLd)):Nat->Int->(List zLd)->Nat->Option (Int×(List zLd))
 |0,_,_,_=>none
 |k75+1,left69,L70,i71=>
  if ltI ((i71:Nat):Int) (c1.L.length:Int) then
   (c1.L[i71]?).bind fun x79=>
   (F_tycon_maker_rebuild x79 binders2 left69 c4).bind fun v81=>
   (app 104 L70 [v81.1]).bind fun l83=>
   zBa F_tycon_maker_rebuild c1 binders2 c4 k75 v81.2 l83 (i71+1)
  else
   some (left69,L70)
def zAm:Nat->zLd->Int->Int->(List zLd)->Option (zLd×Int)
 |0,_,_,_,_=>none
 |fuel+1,c1,binders2,c3,c4=>
  if leI c3 0 then
   some ((zLd.mk 0 0 ([]:List UInt8) (zLb.mk ([]:List zLb)) ([]:List (List UInt8)) ([]:List zLd)),(-1))
  else if (eqI c1.Op 1)||(eqI c1.Op 2) then
   (zD7 fuel c1 binders2 c4).bind fun v12=>
   (zCN fuel v12).bind fun v14=>
   (chk .i64 (c3-v14)).bind fun n16=>
   some (v12,n16)
  else
   (chk .i64 (c3-1)).bind fun n27=>
   (zBy fuel c1.Kind).bind fun v32=>
   (zBC c1.Names).bind fun v34=>
   (zBO c1).bind fun v36=>
   if v36 then
    (chk .i64 (binders2+1)).bind fun n39=>
    (zBb (zAm fuel) c1 c4 n39 fuel n27 ([]:List zLd) 0).bind fun o47=>
    some ((zLd.mk c1.Op c1.N c1.S v32 v34 o47.2),o47.1)
   else
    (zBa (zAm fuel) c1 binders2 c4 fuel n27 ([]:List zLd) 0).bind fun o72=>
    some ((zLd.mk c1.Op c1.N c1.S v32 v34 o72.2),o72.1)
def zCp(fuel:Nat)(c1:zLd)(c2:(List zLd)):Option (zLd×Int):=
 (zAm fuel c1 0 20000 c2).bind fun v3=>
 (if ltI v3.2 0 then
  some true
 else
  (zBZ fuel v3.1).bind fun v8=>
  some (!v8):Option Bool).bind fun b10=>
 if b10 then
  some ((zLd.mk 0 0 ([]:List UInt8) (zLb.mk ([]:List zLb)) ([]:List (List UInt8)) ([]:List zLd)),6)
 else
  some (v3.1,0)
def zET(fuel:Nat)(c1:zLd)(l2:(List zLd)):Option (zLd×Int):=
 ((zBZ fuel c1).bind fun v3=>
 if !v3 then
  some true
 else
  (zGJ fuel l2).bind fun v8=>
  some (!v8):Option Bool).bind fun b10=>
 if b10 then
  some ((zLd.mk 0 0 ([]:List UInt8) (zLb.mk ([]:List zLb)) ([]:List (List UInt8)) ([]:List zLd)),1)
 else if ltI 1000 (l2.length:Int) then
  some ((zLd.mk 0 0 ([]:List UInt8) (zLb.mk ([]:List zLb)) ([]:List (List UInt8)) ([]:List zLd)),5)
 else
  (zCp fuel c1 l2).bind fun v18=>
  some (v18.1,v18.2)
def zCn(fuel:Nat)(f1:zLd)(a2:zLd)(w3:zLY):Option (zLd×zLY):=
 (chk .i64 (w3.steps+1)).bind fun n4=>
 if ltI 10000 n4 then
  some ((zLd.mk 0 0 ([]:List UInt8) (zLb.mk ([]:List zLb)) ([]:List (List UInt8)) ([]:List zLd)),(zLY.mk n4 true))
 else if w3.over then
  some ((zLd.mk 0 0 ([]:List UInt8) (zLb.mk ([]:List zLb)) ([]:List (List UInt8)) ([]:List zLd)),(zLY.mk n4 w3.over))
 else
  (f1.L[0]?).bind fun x13=>
  (zET fuel x13 [a2]).bind fun v15=>
  if !(eqI v15.2 0) then
   some ((zLd.mk 0 0 ([]:List UInt8) (zLb.mk ([]:List zLb)) ([]:List (List UInt8)) ([]:List zLd)),(zLY.mk n4 true))
  else
   (zCE fuel v15.1 (zLY.mk n4 w3.over)).bind fun v22=>
   some (v22.1,v22.2)
def zF6(op1:Int):Option (Bool):=
 some ((eqI op1 9)||((eqI op1 10)||((eqI op1 11)||(eqI op1 13))))
def zAd(F_normal_occurs_1:zLd->Int->Option (Bool))(s1:(List zLd))(c2:Int):Nat->Nat->Option ((Int) ⊕ (Unit))
 |0,_=>none
 |k8+1,i3=>
  if ltI ((i3:Nat):Int) (s1.length:Int) then
   (s1[i3]?).bind fun x12=>
   (F_normal_occurs_1 x12 c2).bind fun v14=>
   if v14 then
    some (.inl ((i3:Nat):Int))
   else
    zAd F_normal_occurs_1 s1 c2 k8 (i3+1)
  else
   some (.inr ())
mutual
def zCG:Nat->zLd->Int->Option (Bool)
 |0,_,_=>none
 |fuel+1,x1,c2=>
  ((zCx fuel) x1 c2).bind fun v3=>
  some v3
def zBE:Nat->(List zLd)->Int->Option (Int)
 |0,_,_=>none
 |fuel+1,s1,c2=>
  (zAd (zCG fuel) s1 c2 fuel 0).bind fun o=>Sum.elim some (fun o4=>
   some (-1)) o
def zAf:Nat->(List zLd)->Int->Option (Bool)
 |0,_,_=>none
 |fuel+1,s1,c2=>
  ((zBE fuel) s1 c2).bind fun v3=>
  some (leI 0 v3)
def zCx:Nat->zLd->Int->Option (Bool)
 |0,_,_=>none
 |fuel+1,c1,n2=>
  if eqI c1.Op 1 then
   some (eqI c1.N n2)
  else
   (zF6 c1.Op).bind fun v6=>
   if v6 then
    (chk .i64 (n2+1)).bind fun n9=>
    ((zAf fuel) c1.L n9).bind fun v14=>
    some v14
   else
    ((zAf fuel) c1.L n2).bind fun v17=>
    some v17
end
def zFl(fuel:Nat)(c1:zLd):Option (Bool):=
 (if !(eqI c1.Op 11) then
  some true
 else
  (c1.L[0]?).bind fun x7=>
  some (!(eqI x7.Op 12)):Option Bool).bind fun b9=>
 if b9 then
  some false
 else
  (c1.L[0]?).bind fun x12=>
  (x12.L[0]?).bind fun x14=>
  (x12.L[1]?).bind fun x16=>
  (if eqI x16.Op 1 then
   if eqI x16.N 0 then
    (zCx fuel x14 0).bind fun v22=>
    some (!v22)
   else
    some false
  else
   some false:Option Bool).bind fun b26=>
  some b26
def zD8(c1:zLd)(binders2:Int)(c3:Int)(c4:Int)(c5:Bool):Option (Bool):=
 (chk .i64 (c1.N-binders2)).bind fun n6=>
 (if eqI c1.Op 1 then
  if leI c3 n6 then
   (chk .i64 (n6+c4)).bind fun n15=>
   some (ltI n15 c3)
  else
   some false
 else
  some false:Option Bool).bind fun b22=>
 if b22 then
  some true
 else
  some c5
def zBi(F_tycon_each_Shift_1:zLd->Int->Int->Int->Bool->Option (Bool))(c1:zLd)(c3:Int)(c4:Int)(n15:Int):Nat->Bool->Nat->Option (Bool)
 |0,_,_=>none
 |k25+1,a20,i21=>
  if ltI ((i21:Nat):Int) (c1.L.length:Int) then
   (c1.L[i21]?).bind fun x29=>
   (F_tycon_each_Shift_1 x29 n15 c3 c4 a20).bind fun v31=>
   zBi F_tycon_each_Shift_1 c1 c3 c4 n15 k25 v31 (i21+1)
  else
   some a20
def zBh(F_tycon_each_Shift_1:zLd->Int->Int->Int->Bool->Option (Bool))(c1:zLd)(binders2:Int)(c3:Int)(c4:Int):Nat->Bool->Nat->Option (Bool)
 |0,_,_=>none
 |k43+1,a38,i39=>
  if ltI ((i39:Nat):Int) (c1.L.length:Int) then
   (c1.L[i39]?).bind fun x47=>
   (F_tycon_each_Shift_1 x47 binders2 c3 c4 a38).bind fun v49=>
   zBh F_tycon_each_Shift_1 c1 binders2 c3 c4 k43 v49 (i39+1)
  else
   some a38
def zBg(F_tycon_each_Shift_1:zLd->Int->Int->Int->Bool->Option (Bool))(c1:zLd)(c3:Int)(c4:Int)(n65:Int):Nat->Bool->Nat->Option (Bool)
 |0,_,_=>none
 |k75+1,a70,i71=>
  if ltI ((i71:Nat):Int) (c1.L.length:Int) then
   (c1.L[i71]?).bind fun x79=>
   (F_tycon_each_Shift_1 x79 n65 c3 c4 a70).bind fun v81=>
   zBg F_tycon_each_Shift_1 c1 c3 c4 n65 k75 v81 (i71+1)
  else
   some a70
def zBf(F_tycon_each_Shift_1:zLd->Int->Int->Int->Bool->Option (Bool))(c1:zLd)(binders2:Int)(c3:Int)(c4:Int):Nat->Bool->Nat->Option (Bool)
 |0,_,_=>none
 |k93+1,a88,i89=>
  if ltI ((i89:Nat):Int) (c1.L.length:Int) then
   (c1.L[i89]?).bind fun x97=>
   (F_tycon_each_Shift_1 x97 binders2 c3 c4 a88).bind fun v99=>
   zBf F_tycon_each_Shift_1 c1 binders2 c3 c4 k93 v99 (i89+1)
  else
   some a88
def zAS:Nat->zLd->Int->Int->Int->Bool->Option (Bool)
 |0,_,_,_,_,_=>none
 |fuel+1,c1,binders2,c3,c4,c5=>
  if (eqI c1.Op 1)||(eqI c1.Op 2) then
   (zD8 c1 binders2 c3 c4 c5).bind fun v10=>
   (zBO c1).bind fun v12=>
   if v12 then
    (chk .i64 (binders2+1)).bind fun n15=>
    (zBi (zAS fuel) c1 c3 c4 n15 fuel v10 0).bind fun o22=>
    some o22
   else
    (zBh (zAS fuel) c1 binders2 c3 c4 fuel v10 0).bind fun o40=>
    some o40
  else
   (zBO c1).bind fun v62=>
   if v62 then
    (chk .i64 (binders2+1)).bind fun n65=>
    (zBg (zAS fuel) c1 c3 c4 n65 fuel c5 0).bind fun o72=>
    some o72
   else
    (zBf (zAS fuel) c1 binders2 c3 c4 fuel c5 0).bind fun o90=>
    some o90
def zCS(fuel:Nat)(c1:zLd)(leaf2:Int)(leaf3:Int):Option (zLd×Int):=
 (zAT fuel c1 0 leaf2 leaf3 20000).bind fun v4=>
 (if ltI v4.2 0 then
  some true
 else
  (zBZ fuel v4.1).bind fun v9=>
  some (!v9):Option Bool).bind fun b11=>
 if b11 then
  some ((zLd.mk 0 0 ([]:List UInt8) (zLb.mk ([]:List zLb)) ([]:List (List UInt8)) ([]:List zLd)),6)
 else
  some (v4.1,0)
def zEU(fuel:Nat)(c1:zLd)(by2:Int)(from3:Int):Option (zLd×Int):=
 (zBZ fuel c1).bind fun v4=>
 if !v4 then
  some ((zLd.mk 0 0 ([]:List UInt8) (zLb.mk ([]:List zLb)) ([]:List (List UInt8)) ([]:List zLd)),1)
 else if (ltI from3 0)||((ltI by2 (-20000))||(ltI 20000 by2)) then
  some ((zLd.mk 0 0 ([]:List UInt8) (zLb.mk ([]:List zLb)) ([]:List (List UInt8)) ([]:List zLd)),2)
 else
  (zAS fuel c1 0 from3 by2 false).bind fun v23=>
  if v23 then
   some ((zLd.mk 0 0 ([]:List UInt8) (zLb.mk ([]:List zLb)) ([]:List (List UInt8)) ([]:List zLd)),2)
  else
   (zE9 by2 from3).bind fun v26=>
   (zCS fuel c1 v26.1 v26.2).bind fun v28=>
   some (v28.1,v28.2)
def zA6(F_normal_counter_normalize:zLd->zLY->Option (zLd×zLY))(c1:zLd):Nat->Int->Bool->(List zLd)->Nat->Option (Int×Bool×(List zLd))
 |0,_,_,_,_=>none
 |k11+1,steps4,over5,L6,i7=>
  if ltI ((i7:Nat):Int) (c1.L.length:Int) then
   (c1.L[i7]?).bind fun x15=>
   (F_normal_counter_normalize x15 (zLY.mk steps4 over5)).bind fun v17=>
   (app 104 L6 [v17.1]).bind fun l19=>
   zA6 F_normal_counter_normalize c1 k11 v17.2.steps v17.2.over l19 (i7+1)
  else
   some (steps4,over5,L6)
def zAb:Nat->zLd->zLY->Option (zLd×zLY)
 |0,_,_=>none
 |fuel+1,c1,w2=>
  if w2.over then
   some ((zLd.mk 0 0 ([]:List UInt8) (zLb.mk ([]:List zLb)) ([]:List (List UInt8)) ([]:List zLd)),w2)
  else
   (zA6 (zAb fuel) c1 fuel w2.steps w2.over ([]:List zLd) 0).bind fun o8=>
   (zCE fuel (zLd.mk c1.Op c1.N c1.S c1.Kind c1.Names o8.2.2) (zLY.mk o8.1 o8.2.1)).bind fun v31=>
   if v31.2.over then
    some ((zLd.mk 0 0 ([]:List UInt8) (zLb.mk ([]:List zLb)) ([]:List (List UInt8)) ([]:List zLd)),v31.2)
   else
    (if eqI v31.1.Op 12 then
     (v31.1.L[0]?).bind fun x36=>
     some (eqI x36.Op 11)
    else
     some false:Option Bool).bind fun b39=>
    if b39 then
     (v31.1.L[0]?).bind fun x42=>
     (v31.1.L[1]?).bind fun x44=>
     (zCn fuel x42 x44 v31.2).bind fun v46=>
     ((zAb fuel) v46.1 v46.2).bind fun v48=>
     some (v48.1,v48.2)
    else
     (zFl fuel v31.1).bind fun v52=>
     if v52 then
      (v31.1.L[0]?).bind fun x55=>
      (x55.L[0]?).bind fun x57=>
      (zEU fuel x57 (-1) 0).bind fun v59=>
      if !(eqI v59.2 0) then
       some ((zLd.mk 0 0 ([]:List UInt8) (zLb.mk ([]:List zLb)) ([]:List (List UInt8)) ([]:List zLd)),(zLY.mk v31.2.steps true))
      else
       some (v59.1,v31.2)
     else
      some (v31.1,v31.2)
def zF2(fuel:Nat)(c1:zLd):Option (zLd×Bool):=
 (zAb fuel c1 (zLY.mk 0 false)).bind fun v2=>
 some (v2.1,!v2.2.over)
def zBr(F_normal_copiedKind:zLb->Option (zLb))(k1:zLb):Nat->(List zLb)->Nat->Option ((List zLb))
 |0,_,_=>none
 |k7+1,L2,i3=>
  if ltI ((i3:Nat):Int) (k1.L.length:Int) then
   (k1.L[i3]?).bind fun x11=>
   (F_normal_copiedKind x11).bind fun v13=>
   (app 24 L2 [v13]).bind fun l15=>
   zBr F_normal_copiedKind k1 k7 l15 (i3+1)
  else
   some L2
def zBY:Nat->zLb->Option (zLb)
 |0,_=>none
 |fuel+1,k1=>
  (zBr (zBY fuel) k1 fuel ([]:List zLb) 0).bind fun o4=>
  some (zLb.mk o4)
def zCO(F_normal_copied:zLd->Option (zLd))(c1:zLd):Nat->(List zLd)->Nat->Option ((List zLd))
 |0,_,_=>none
 |k11+1,L6,i7=>
  if ltI ((i7:Nat):Int) (c1.L.length:Int) then
   (c1.L[i7]?).bind fun x15=>
   (F_normal_copied x15).bind fun v17=>
   (app 104 L6 [v17]).bind fun l19=>
   zCO F_normal_copied c1 k11 l19 (i7+1)
  else
   some L6
def zB9:Nat->zLd->Option (zLd)
 |0,_=>none
 |fuel+1,c1=>
  (zBY fuel c1.Kind).bind fun v2=>
  (zBC c1.Names).bind fun v4=>
  (zCO (zB9 fuel) c1 fuel ([]:List zLd) 0).bind fun o8=>
  some (zLd.mk c1.Op c1.N c1.S v2 v4 o8)
def zDJ(fuel:Nat)(c1:zLd):Option (zLd×Int):=
 (zBZ fuel c1).bind fun v2=>
 if !v2 then
  some ((zLd.mk 0 0 ([]:List UInt8) (zLb.mk ([]:List zLb)) ([]:List (List UInt8)) ([]:List zLd)),1)
 else
  (zF2 fuel c1).bind fun v7=>
  if !v7.2 then
   some ((zLd.mk 0 0 ([]:List UInt8) (zLb.mk ([]:List zLb)) ([]:List (List UInt8)) ([]:List zLd)),27)
  else
   (zB9 fuel v7.1).bind fun v12=>
   some (v12,0)
def zDY(n:Int):Option (List UInt8):=if (Lib.itoa n).length<=1000 then some (Lib.itoa n) else none
def zBD(l1:(List (List UInt8))):Nat->Nat->Option ((Bool) ⊕ (Unit))
 |0,_=>none
 |k13+1,i8=>
  if ltI ((i8:Nat):Int) (l1.length:Int) then
   (l1[i8]?).bind fun x17=>
   (zDY ((i8+1:Nat):Int)).bind fun v20=>
   if !(eqS x17 v20) then
    some (.inl false)
   else
    zBD l1 k13 (i8+1)
  else
   some (.inr ())
def zB7(fuel:Nat)(l1:(List (List UInt8)))(n2:Int):Option (Bool):=
 if !(eqI (l1.length:Int) n2) then
  some false
 else
  (zBD l1 fuel 0).bind fun o=>Sum.elim some (fun o9=>
   some true) o
def zEl(fuel:Nat)(c1:zLd)(binders2:Int):Option (zLd):=
 (zDX fuel c1).bind fun v3=>
 some v3
def zBH(F_tycon_maker_rebuild_v3:zLd->Int->Int->Option (zLd×Int))(c1:zLd)(n38:Int):Nat->Int->(List zLd)->Nat->Option (Int×(List zLd))
 |0,_,_,_=>none
 |k49+1,left43,L44,i45=>
  if ltI ((i45:Nat):Int) (c1.L.length:Int) then
   (c1.L[i45]?).bind fun x53=>
   (F_tycon_maker_rebuild_v3 x53 n38 left43).bind fun v55=>
   (app 104 L44 [v55.1]).bind fun l57=>
   zBH F_tycon_maker_rebuild_v3 c1 n38 k49 v55.2 l57 (i45+1)
  else
   some (left43,L44)
def zBG(F_tycon_maker_rebuild_v3:zLd->Int->Int->Option (zLd×Int))(c1:zLd)(binders2:Int):Nat->Int->(List zLd)->Nat->Option (Int×(List zLd))
 |0,_,_,_=>none
 |k74+1,left68,L69,i70=>
  if ltI ((i70:Nat):Int) (c1.L.length:Int) then
   (c1.L[i70]?).bind fun x78=>
   (F_tycon_maker_rebuild_v3 x78 binders2 left68).bind fun v80=>
   (app 104 L69 [v80.1]).bind fun l82=>
   zBG F_tycon_maker_rebuild_v3 c1 binders2 k74 v80.2 l82 (i70+1)
  else
   some (left68,L69)
def zAV:Nat->zLd->Int->Int->Option (zLd×Int)
 |0,_,_,_=>none
 |fuel+1,c1,binders2,c3=>
  if leI c3 0 then
   some ((zLd.mk 0 0 ([]:List UInt8) (zLb.mk ([]:List zLb)) ([]:List (List UInt8)) ([]:List zLd)),(-1))
  else if (eqI c1.Op 1)||(eqI c1.Op 2) then
   (zEl fuel c1 binders2).bind fun v11=>
   (zCN fuel v11).bind fun v13=>
   (chk .i64 (c3-v13)).bind fun n15=>
   some (v11,n15)
  else
   (chk .i64 (c3-1)).bind fun n26=>
   (zBy fuel c1.Kind).bind fun v31=>
   (zBC c1.Names).bind fun v33=>
   (zBO c1).bind fun v35=>
   if v35 then
    (chk .i64 (binders2+1)).bind fun n38=>
    (zBH (zAV fuel) c1 n38 fuel n26 ([]:List zLd) 0).bind fun o46=>
    some ((zLd.mk c1.Op c1.N c1.S v31 v33 o46.2),o46.1)
   else
    (zBG (zAV fuel) c1 binders2 fuel n26 ([]:List zLd) 0).bind fun o71=>
    some ((zLd.mk c1.Op c1.N c1.S v31 v33 o71.2),o71.1)
def zCq(fuel:Nat)(c1:zLd):Option (zLd):=
 (zAV fuel c1 0 20000).bind fun v2=>
 some v2.1
def zCC(fuel:Nat):Nat->zLd->List zLd->Option (zLd×List zLd)
 |0,_,_=>none
 |k+1,x,l=>
  if eqI x.Op 12 then
   (x.L[1]?).bind fun y=>
   (zCq fuel y).bind fun z=>
   (app 104 l [z]).bind fun l1=>
   (x.L[0]?).bind fun u=>
   zCC fuel k u l1
  else
   some (x,l)
def zFI(fuel:Nat)(c1:zLd):Option (zLd×List zLd×Int):=
 (zBZ fuel c1).bind fun v=>
 if !v then
  some (zLd.mk 0 0 [] (zLb.mk []) [] [],[],1)
 else
  (zCC fuel fuel c1 []).bind fun o=>
  (zCq fuel o.1).bind fun z=>
  some (z,o.2.reverse,0)
def zCP(v9:zLd×(List zLd)×Int):Nat->Int->Int->(List UInt8)->(List zLb)->(List (List UInt8))->(List zLd)->Nat->Option (Int×Int×(List UInt8)×(List zLb)×(List (List UInt8))×(List zLd))
 |0,_,_,_,_,_,_,_=>none
 |k40+1,Op30,N31,S32,Kind33,Names34,L35,i36=>
  if ltI ((i36:Nat):Int) (v9.2.1.length:Int) then
   (v9.2.1[i36]?).bind fun x44=>
   zCP v9 k40 12 0 ([]:List UInt8) ([]:List zLb) ([]:List (List UInt8)) [(zLd.mk Op30 N31 S32 (zLb.mk Kind33) Names34 L35),x44] (i36+1)
  else
   some (Op30,N31,S32,Kind33,Names34,L35)
def zEB(fuel:Nat)(c1:zLd):Option (zLd×Int):=
 (zDJ fuel c1).bind fun v2=>
 if !(eqI v2.2 0) then
  some ((zLd.mk 0 0 ([]:List UInt8) (zLb.mk ([]:List zLb)) ([]:List (List UInt8)) ([]:List zLd)),v2.2)
 else
  (zFI fuel v2.1).bind fun v9=>
  if !(eqI v9.2.2 0) then
   some ((zLd.mk 0 0 ([]:List UInt8) (zLb.mk ([]:List zLb)) ([]:List (List UInt8)) ([]:List zLd)),27)
  else if !(eqI v9.1.Op 13) then
   some ((zLd.mk 0 0 ([]:List UInt8) (zLb.mk ([]:List zLb)) ([]:List (List UInt8)) ([]:List zLd)),12)
  else
   (v9.1.L[0]?).bind fun x21=>
   (zET fuel x21 [v9.1]).bind fun v23=>
   if !(eqI v23.2 0) then
    some ((zLd.mk 0 0 ([]:List UInt8) (zLb.mk ([]:List zLb)) ([]:List (List UInt8)) ([]:List zLd)),27)
   else
    (zCP v9 fuel v23.1.Op v23.1.N v23.1.S v23.1.Kind.L v23.1.Names v23.1.L 0).bind fun o37=>
    (zDJ fuel (zLd.mk o37.1 o37.2.1 o37.2.2.1 (zLb.mk o37.2.2.2.1) o37.2.2.2.2.1 o37.2.2.2.2.2)).bind fun v56=>
    if !(eqI v56.2 0) then
     some ((zLd.mk 0 0 ([]:List UInt8) (zLb.mk ([]:List zLb)) ([]:List (List UInt8)) ([]:List zLd)),27)
    else
     some (v56.1,0)
def zDK(l1:(List (List UInt8)))(s2:(List UInt8)):Nat->Nat->Option ((Int) ⊕ (Unit))
 |0,_=>none
 |k8+1,i3=>
  if ltI ((i3:Nat):Int) (l1.length:Int) then
   (l1[i3]?).bind fun x12=>
   if eqS x12 s2 then
    some (.inl ((i3:Nat):Int))
   else
    zDK l1 s2 k8 (i3+1)
  else
   some (.inr ())
def zFo(fuel:Nat)(l1:(List (List UInt8)))(s2:(List UInt8)):Option (Int):=
 (zDK l1 s2 fuel 0).bind fun o=>Sum.elim some (fun o4=>
  some (-1)) o
def zGg(c1:zLd):Option (Bool):=
 some ((eqI c1.Op 7)&&(eqI (c1.L.length:Int) 0))
def zAR(F_pattern_typing_pattern:zLc->zLd->zLX->Option (Int×zLX))(p1:zLc)(c2:zLd):Nat->(List zLa)->Nat->Option ((Int×zLX) ⊕ ((List zLa)))
 |0,_,_=>none
 |k43+1,binds37,i38=>
  if ltI ((i38:Nat):Int) (p1.L.length:Int) then
   (p1.L[i38]?).bind fun x47=>
   (c2.L[i38]?).bind fun x49=>
   (F_pattern_typing_pattern x47 x49 (zLX.mk binds37)).bind fun v51=>
   if !(eqI v51.1 0) then
    some (.inl (v51.1,v51.2))
   else
    zAR F_pattern_typing_pattern p1 c2 k43 v51.2.binds (i38+1)
  else
   some (.inr binds37)
mutual
def zAq:Nat->zLc->zLd->zLX->Option (Int×zLX)
 |0,_,_,_=>none
 |fuel+1,p1,c2,w3=>
  (zEB fuel c2).bind fun v4=>
  if eqI v4.2 27 then
   some (v4.2,w3)
  else if (!(eqI v4.2 0))||(!(eqI v4.1.Op 8)) then
   some (12,w3)
  else
   (zFo fuel v4.1.Names p1.S).bind fun v21=>
   if ltI v21 0 then
    some (10,w3)
   else
    (idx v4.1.L v21).bind fun x26=>
    (zGg x26).bind fun v30=>
    if !(eqB v30 (eqI (p1.L.length:Int) 0)) then
     some (12,w3)
    else if eqI (p1.L.length:Int) 0 then
     some (0,w3)
    else
     (p1.L[0]?).bind fun x38=>
     ((zAO fuel) x38 x26 w3).bind fun v40=>
     some (v40.1,v40.2)
def zAO:Nat->zLc->zLd->zLX->Option (Int×zLX)
 |0,_,_,_=>none
 |fuel+1,p1,c2,w3=>
  if eqI p1.Op 1 then
   some (0,w3)
  else if eqI p1.Op 2 then
   (zEU fuel c2 0 0).bind fun v9=>
   (app 120 w3.binds [(zLa.mk p1.S v9.1)]).bind fun l11=>
   some (0,(zLX.mk l11))
  else if eqI p1.Op 3 then
   if !(eqI c2.Op 4) then
    some (12,w3)
   else
    some (0,w3)
  else if eqI p1.Op 5 then
   (if !(eqI c2.Op 7) then
    some true
   else
    (zB7 fuel c2.Names (p1.L.length:Int)).bind fun v32=>
    some (!v32):Option Bool).bind fun b34=>
   if b34 then
    some (12,w3)
   else
    (zAR (zAO fuel) p1 c2 fuel w3.binds 0).bind fun o=>Sum.elim some (fun o39=>
     some (0,(zLX.mk o39))) o
  else
   ((zAq fuel) p1 c2 w3).bind fun v65=>
   some (v65.1,v65.2)
end
def zB1(fuel:Nat)(p1:zLc)(c2:zLd):Option ((List zLa)×Int):=
 ((zB8 fuel p1).bind fun v3=>
 if !v3 then
  some true
 else
  (zBZ fuel c2).bind fun v8=>
  some (!v8):Option Bool).bind fun b10=>
 if b10 then
  some (([]:List zLa),1)
 else
  (zDJ fuel c2).bind fun v13=>
  if !(eqI v13.2 0) then
   some (([]:List zLa),v13.2)
  else
   (zAO fuel p1 v13.1 (zLX.mk ([]:List zLa))).bind fun v20=>
   if !(eqI v20.1 0) then
    some (([]:List zLa),v20.1)
   else
    some (v20.2.binds,0)
def zBx(n1:Bool)(s2:Bool)(names3:Bool)(w4:zLZ):Option (Bool):=
 some (if n1 then if s2 then names3||(eqI (w4.Names.length:Int) 0) else (eqS w4.S ([]:List UInt8))&&(names3||(eqI (w4.Names.length:Int) 0)) else (eqI w4.N 0)&&(if s2 then names3||(eqI (w4.Names.length:Int) 0) else (eqS w4.S ([]:List UInt8))&&(names3||(eqI (w4.Names.length:Int) 0))))
def zF1(v1:zLZ):Option (Bool):=
 some ((eqI v1.Op 3)&&((eqI (v1.Names.length:Int) 0)&&(ltI 0 (v1.L.length:Int))))
def zEi(fuel:Nat)(s1:(List UInt8)):Option (Bool):=
 (zCU fuel s1).bind fun v2=>
 some (!v2)
def zAW(fuel:Nat)(s1:(List (List UInt8))):Nat->Nat->Option ((Int) ⊕ (Unit))
 |0,_=>none
 |k7+1,i2=>
  if ltI ((i2:Nat):Int) (s1.length:Int) then
   (s1[i2]?).bind fun x11=>
   (zEi fuel x11).bind fun v13=>
   if v13 then
    some (.inl ((i2:Nat):Int))
   else
    zAW fuel s1 k7 (i2+1)
  else
   some (.inr ())
def zBk(fuel:Nat)(s1:(List (List UInt8))):Option (Int):=
 (zAW fuel s1 fuel 0).bind fun o=>Sum.elim some (fun o3=>
  some (-1)) o
def zA8(fuel:Nat)(s1:(List (List UInt8))):Option (Bool):=
 (zBk fuel s1).bind fun v2=>
 some (leI 0 v2)
def zEj(fuel:Nat)(l1:(List (List UInt8))):Option (Bool):=
 (if leI (l1.length:Int) 1000 then
  (zA5 fuel l1).bind fun v5=>
  if v5 then
   (zA8 fuel l1).bind fun v8=>
   some (!v8)
  else
   some false
 else
  some false:Option Bool).bind fun b12=>
 some b12
def zFU(v1:zLZ):Option (Bool):=
 some ((eqI v1.Op 4)&&(eqS v1.S ([]:List UInt8)))
def zFh(fuel:Nat)(v1:zLZ):Option (Bool):=
 if eqI v1.Op 1 then
  ((zBx true false false v1).bind fun v4=>
  if v4 then
   if eqI (v1.L.length:Int) 0 then
    if leI (-4503599627370496) v1.N then
     some (leI v1.N 4503599627370496)
    else
     some false
   else
    some false
  else
   some false:Option Bool).bind fun b13=>
  some b13
 else if eqI v1.Op 2 then
  ((zBx false true false v1).bind fun v22=>
  if v22 then
   if eqI (v1.L.length:Int) 0 then
    some (leI (v1.S.length:Int) 16384)
   else
    some false
  else
   some false:Option Bool).bind fun b28=>
  some b28
 else if eqI v1.Op 3 then
  (zF1 v1).bind fun v36=>
  if v36 then
   ((zBx false false false v1).bind fun v39=>
   if v39 then
    some (leI (v1.L.length:Int) 1000)
   else
    some false:Option Bool).bind fun b42=>
   some b42
  else
   ((zBx false false true v1).bind fun v46=>
   if v46 then
    (zEj fuel v1.Names).bind fun v49=>
    if v49 then
     some (eqI (v1.L.length:Int) (v1.Names.length:Int))
    else
     some false
   else
    some false:Option Bool).bind fun b52=>
   some b52
 else if eqI v1.Op 4 then
  (zFU v1).bind fun v63=>
  if v63 then
   ((zBx true false false v1).bind fun v66=>
   if v66 then
    if eqI (v1.L.length:Int) 1 then
     if leI 0 v1.N then
      some (leI v1.N 1000)
     else
      some false
    else
     some false
   else
    some false:Option Bool).bind fun b75=>
   some b75
  else
   ((zBx false true false v1).bind fun v81=>
   if v81 then
    if eqI (v1.L.length:Int) 1 then
     (zCU fuel v1.S).bind fun v86=>
     some v86
    else
     some false
   else
    some false:Option Bool).bind fun b89=>
   some b89
 else if eqI v1.Op 5 then
  ((zBx false false false v1).bind fun v99=>
  if v99 then
   some (eqI (v1.L.length:Int) 1)
  else
   some false:Option Bool).bind fun b102=>
  some b102
 else if eqI v1.Op 6 then
  ((zBx false false false v1).bind fun v109=>
  if v109 then
   some (eqI (v1.L.length:Int) 1)
  else
   some false:Option Bool).bind fun b112=>
  some b112
 else if eqI v1.Op 7 then
  ((zBx false false false v1).bind fun v119=>
  if v119 then
   some (eqI (v1.L.length:Int) 0)
  else
   some false:Option Bool).bind fun b122=>
  some b122
 else
  some false
def zAU(F_value_right_1:zLZ->Int->Int->Option (Bool×Int))(s1:(List zLZ))(c2:Int):Nat->Int->Nat->Option ((Int×Int) ⊕ (Int))
 |0,_,_=>none
 |k10+1,a4,i5=>
  if ltI ((i5:Nat):Int) (s1.length:Int) then
   (s1[i5]?).bind fun x14=>
   (F_value_right_1 x14 c2 a4).bind fun v16=>
   if v16.1 then
    some (.inl (((i5:Nat):Int),v16.2))
   else
    zAU F_value_right_1 s1 c2 k10 v16.2 (i5+1)
  else
   some (.inr a4)
mutual
def zDG:Nat->zLZ->Int->Int->Option (Bool×Int)
 |0,_,_,_=>none
 |fuel+1,x1,c2,c3=>
  (chk .i64 (c2-1)).bind fun n4=>
  ((zDV fuel) x1 n4 c3).bind fun v9=>
  some (!v9.1,v9.2)
def zBB:Nat->(List zLZ)->Int->Int->Option (Int×Int)
 |0,_,_,_=>none
 |fuel+1,s1,c2,c3=>
  (zAU (zDG fuel) s1 c2 fuel c3 0).bind fun o=>Sum.elim some (fun o6=>
   some ((-1),o6)) o
def zA4:Nat->(List zLZ)->Int->Int->Option (Bool×Int)
 |0,_,_,_=>none
 |fuel+1,s1,c2,c3=>
  ((zBB fuel) s1 c2 c3).bind fun v4=>
  some (leI 0 v4.1,v4.2)
def zDV:Nat->zLZ->Int->Int->Option (Bool×Int)
 |0,_,_,_=>none
 |fuel+1,v1,depth2,c3=>
  (chk .i64 (c3-1)).bind fun n4=>
  (if ltI n4 0 then
   some true
  else if eqI depth2 0 then
   some true
  else
   (zFh fuel v1).bind fun v15=>
   some (!v15):Option Bool).bind fun b17=>
  if b17 then
   some (false,n4)
  else
   ((zA4 fuel) v1.L depth2 n4).bind fun v20=>
   some (!v20.1,v20.2)
end
def zCF(fuel:Nat)(v1:zLZ):Option (Bool):=
 (zDV fuel v1 400 20000).bind fun v2=>
 some v2.1
def zB2(F_pattern_copied:zLZ->Option (zLZ))(v1:zLZ):Nat->(List zLZ)->Nat->Option ((List zLZ))
 |0,_,_=>none
 |k9+1,L4,i5=>
  if ltI ((i5:Nat):Int) (v1.L.length:Int) then
   (v1.L[i5]?).bind fun x13=>
   (F_pattern_copied x13).bind fun v15=>
   (app 80 L4 [v15]).bind fun l17=>
   zB2 F_pattern_copied v1 k9 l17 (i5+1)
  else
   some L4
def zB4:Nat->zLZ->Option (zLZ)
 |0,_=>none
 |fuel+1,v1=>
  (zBC v1.Names).bind fun v2=>
  (zB2 (zB4 fuel) v1 fuel ([]:List zLZ) 0).bind fun o6=>
  some (zLZ.mk v1.Op v1.N v1.S v2 o6)
def zAg(F_pattern_match:zLc->zLZ->(List zLZ)->Option ((List zLZ)×Bool×Bool))(p1:zLc)(v2:zLZ):Nat->(List zLZ)->Nat->Option (((List zLZ)×Bool×Bool) ⊕ ((List zLZ)))
 |0,_,_=>none
 |k46+1,l40,i41=>
  if ltI ((i41:Nat):Int) (p1.L.length:Int) then
   (p1.L[i41]?).bind fun x50=>
   (v2.L[i41]?).bind fun x52=>
   (F_pattern_match x50 x52 l40).bind fun v54=>
   if !v54.2.1 then
    some (.inl (([]:List zLZ),false,v54.2.2))
   else
    zAg F_pattern_match p1 v2 k46 v54.1 (i41+1)
  else
   some (.inr l40)
def zAP:Nat->zLc->zLZ->(List zLZ)->Option ((List zLZ)×Bool×Bool)
 |0,_,_,_=>none
 |fuel+1,p1,v2,l3=>
  if eqI p1.Op 1 then
   some (l3,true,false)
  else if eqI p1.Op 2 then
   (zB4 fuel v2).bind fun v9=>
   (app 80 l3 [v9]).bind fun l11=>
   some (l11,true,false)
  else if eqI p1.Op 3 then
   some (l3,(eqI v2.Op 1)&&(eqI v2.N p1.N),!(eqI v2.Op 1))
  else if eqI p1.Op 5 then
   (if !(eqI v2.Op 3) then
    some true
   else if !(eqI (v2.L.length:Int) (p1.L.length:Int)) then
    some true
   else
    (zB7 fuel v2.Names (p1.L.length:Int)).bind fun v35=>
    some (!v35):Option Bool).bind fun b37=>
   if b37 then
    some (([]:List zLZ),false,true)
   else
    (zAg (zAP fuel) p1 v2 fuel l3 0).bind fun o=>Sum.elim some (fun o42=>
     some (o42,true,false)) o
  else
   (if !(eqI v2.Op 5) then
    some true
   else
    (v2.L[0]?).bind fun x71=>
    if !(eqI x71.Op 4) then
     some true
    else
     some (eqS x71.S ([]:List UInt8)):Option Bool).bind fun b78=>
   if b78 then
    some (([]:List zLZ),false,true)
   else
    (v2.L[0]?).bind fun x81=>
    (x81.L[0]?).bind fun x83=>
    if !(eqS x81.S p1.S) then
     some (([]:List zLZ),false,false)
    else if eqI (p1.L.length:Int) 0 then
     some (l3,(eqI x83.Op 3)&&(eqI (x83.L.length:Int) 0),!((eqI x83.Op 3)&&(eqI (x83.L.length:Int) 0)))
    else
     (p1.L[0]?).bind fun x94=>
     ((zAP fuel) x94 x83 l3).bind fun v96=>
     some (v96.1,v96.2.1,v96.2.2)
def zBX(fuel:Nat)(p1:zLc)(v2:zLZ):Option ((List zLZ)×Bool×Int):=
 ((zB8 fuel p1).bind fun v3=>
 if !v3 then
  some true
 else
  (zCF fuel v2).bind fun v8=>
  some (!v8):Option Bool).bind fun b10=>
 if b10 then
  some (([]:List zLZ),false,1)
 else
  (zAP fuel p1 v2 ([]:List zLZ)).bind fun v13=>
  if v13.2.2 then
   some (([]:List zLZ),false,12)
  else if !v13.2.1 then
   some (([]:List zLZ),false,0)
  else
   some (v13.1,true,0)
def zAy(slices1:(List (List zLc))):Nat->(List zLc)->Nat->Option ((List zLc))
 |0,_,_=>none
 |k35+1,newslice30,i31=>
  if ltI ((i31:Nat):Int) (slices1.length:Int) then
   (slices1[i31]?).bind fun x39=>
   (app 56 newslice30 x39).bind fun l41=>
   zAy slices1 k35 l41 (i31+1)
  else
   some newslice30
def zAz(slices1:(List (List zLc))):Nat->Int->Nat->Option (Int)
 |0,_,_=>none
 |k8+1,size2,i3=>
  if ltI ((i3:Nat):Int) (slices1.length:Int) then
   (slices1[i3]?).bind fun x12=>
   (chk .i64 (size2+(x12.length:Int))).bind fun n14=>
   if ltI n14 0 then
    none
   else
    zAz slices1 k8 n14 (i3+1)
  else
   some size2
def zAo(fuel:Nat)(slices1:(List (List zLc))):Option ((List zLc)):=
 (zAz slices1 fuel 0 0).bind fun o4=>
 (growC 56 o4).bind fun u26=>
 (zAy slices1 fuel ([]:List zLc) 0).bind fun o32=>
 some o32
def zDc(fuel:Nat)(p1:zLc):Option (Bool):=
 (zB8 fuel p1).bind fun v2=>
 some (!v2)
def zAj(fuel:Nat)(s1:(List zLc)):Nat->Nat->Option ((Int) ⊕ (Unit))
 |0,_=>none
 |k7+1,i2=>
  if ltI ((i2:Nat):Int) (s1.length:Int) then
   (s1[i2]?).bind fun x11=>
   (zDc fuel x11).bind fun v13=>
   if v13 then
    some (.inl ((i2:Nat):Int))
   else
    zAj fuel s1 k7 (i2+1)
  else
   some (.inr ())
def zBn(fuel:Nat)(s1:(List zLc)):Option (Int):=
 (zAj fuel s1 fuel 0).bind fun o=>Sum.elim some (fun o3=>
  some (-1)) o
def zBA(fuel:Nat)(s1:(List zLc)):Option (Bool):=
 (zBn fuel s1).bind fun v2=>
 some (leI 0 v2)
def zBW(fuel:Nat)(l1:(List zLc))(v2:zLZ):Nat->Nat->Option ((Int×Int) ⊕ (Unit))
 |0,_=>none
 |k23+1,i18=>
  if ltI ((i18:Nat):Int) (l1.length:Int) then
   (l1[i18]?).bind fun x26=>
   (zAP fuel x26 v2 ([]:List zLZ)).bind fun v28=>
   if v28.2.2 then
    some (.inl (0,12))
   else if v28.2.1 then
    some (.inl (((i18:Nat):Int),0))
   else
    zBW fuel l1 v2 k23 (i18+1)
  else
   some (.inr ())
def zAY(fuel:Nat)(l1:(List zLc))(v2:zLZ):Option (Int×Int):=
 ((zCF fuel v2).bind fun v3=>
 if !v3 then
  some true
 else
  (zBA fuel l1).bind fun v8=>
  some v8:Option Bool).bind fun b10=>
 if b10 then
  some (0,1)
 else if ltI 1000 (l1.length:Int) then
  some (0,5)
 else
  (zBW fuel l1 v2 fuel 0).bind fun o=>Sum.elim some (fun o19=>
   some (0,8)) o
def zCQ(fuel:Nat)(p1:zLc)(at2:(List UInt8))(c3:zLd)(v4:zLZ)(l5:(List zLc)):Option (Bool):=
 (zF3).bind fun v6=>
 if !v6 then
  some false
 else
  ((zEW fuel p1).bind fun v11=>
  if v11 then
   some true
  else if ltI 50 (at2.length:Int) then
   some true
  else
   (zE4 fuel c3).bind fun v19=>
   if v19 then
    some true
   else
    (zFm fuel v4).bind fun v22=>
    if v22 then
     some true
    else if ltI 20 (l5.length:Int) then
     some true
    else
     (zBV fuel l5).bind fun v30=>
     if v30 then
      some true
     else
      (zFK fuel p1).bind fun v33=>
      some (!v33):Option Bool).bind fun b35=>
  if b35 then
   some true
  else
   (zBQ fuel p1 at2).bind fun v38=>
   (zDs fuel v38 p1).bind fun v40=>
   if (!(eqI v40.2 0))||(!v40.1) then
    some false
   else
    (zB1 fuel p1 c3).bind fun v53=>
    if eqI v53.2 0 then
     (zB1 fuel v38 c3).bind fun v57=>
     if !(eqI v57.2 0) then
      some false
     else
      (zBX fuel p1 v4).bind fun v64=>
      if (eqI v64.2.2 0)&&v64.2.1 then
       (zBX fuel v38 v4).bind fun v73=>
       if (!(eqI v73.2.2 0))||((!v73.2.1)||(ltI (v64.1.length:Int) (v73.1.length:Int))) then
        some false
       else
        (zAo fuel [[v38],l5]).bind fun v94=>
        (zAY fuel v94 v4).bind fun v96=>
        if if eqI v96.2 0 then (!(eqI v96.1 0))||false else !(eqI v96.2 1) then
         some false
        else
         (zAY fuel l5 v4).bind fun v107=>
         if !(eqI v107.2 0) then
          some (eqI v107.1 0)
         else if (ltI v107.1 0)||(leI (l5.length:Int) v107.1) then
          some false
         else
          (subC l5 0 (v107.1+1)).bind fun l124=>
          (zAY fuel l124 v4).bind fun v128=>
          (zAo fuel [l5,[v38]]).bind fun v130=>
          (zAY fuel v130 v4).bind fun v132=>
          some ((eqI v128.2 0)&&((eqI v128.1 v107.1)&&((eqI v132.2 0)&&(eqI v132.1 v107.1))))
      else
       (zAY fuel l5 v4).bind fun v150=>
       if !(eqI v150.2 0) then
        some (eqI v150.1 0)
       else if (ltI v150.1 0)||(leI (l5.length:Int) v150.1) then
        some false
       else
        (subC l5 0 (v150.1+1)).bind fun l167=>
        (zAY fuel l167 v4).bind fun v171=>
        (zAo fuel [l5,[v38]]).bind fun v173=>
        (zAY fuel v173 v4).bind fun v175=>
        some ((eqI v171.2 0)&&((eqI v171.1 v150.1)&&((eqI v175.2 0)&&(eqI v175.1 v150.1))))
    else
     (zBX fuel p1 v4).bind fun v193=>
     if (eqI v193.2.2 0)&&v193.2.1 then
      (zBX fuel v38 v4).bind fun v202=>
      if (!(eqI v202.2.2 0))||((!v202.2.1)||(ltI (v193.1.length:Int) (v202.1.length:Int))) then
       some false
      else
       (zAo fuel [[v38],l5]).bind fun v223=>
       (zAY fuel v223 v4).bind fun v225=>
       if if eqI v225.2 0 then (!(eqI v225.1 0))||false else !(eqI v225.2 1) then
        some false
       else
        (zAY fuel l5 v4).bind fun v236=>
        if !(eqI v236.2 0) then
         some (eqI v236.1 0)
        else if (ltI v236.1 0)||(leI (l5.length:Int) v236.1) then
         some false
        else
         (subC l5 0 (v236.1+1)).bind fun l253=>
         (zAY fuel l253 v4).bind fun v257=>
         (zAo fuel [l5,[v38]]).bind fun v259=>
         (zAY fuel v259 v4).bind fun v261=>
         some ((eqI v257.2 0)&&((eqI v257.1 v236.1)&&((eqI v261.2 0)&&(eqI v261.1 v236.1))))
     else
      (zAY fuel l5 v4).bind fun v279=>
      if !(eqI v279.2 0) then
       some (eqI v279.1 0)
      else if (ltI v279.1 0)||(leI (l5.length:Int) v279.1) then
       some false
      else
       (subC l5 0 (v279.1+1)).bind fun l296=>
       (zAY fuel l296 v4).bind fun v300=>
       (zAo fuel [l5,[v38]]).bind fun v302=>
       (zAY fuel v302 v4).bind fun v304=>
       some ((eqI v300.2 0)&&((eqI v300.1 v279.1)&&((eqI v304.2 0)&&(eqI v304.1 v279.1))))
def zEs(s:List UInt8)(c:UInt8):Option Int:=some (Lib.indexByte s c)
def zGe(l:List (List UInt8))(s:List UInt8):Option (List UInt8):=if l.length<=140737488355328∧(Lib.join l s).length<=140737488355328 then some (Lib.join l s) else none
def zGf(b:List UInt8):Option (List UInt8):=some b
end Go.Proofs.YtencdekdgajgfaaGreatDoor
