/- CanonSteps holds: for every input the law returns true. No condition. Part 7 of 19. No condition. -/
import Derived.Test.YtkdhppfdiagglaaGreatDoorCSf
import Derived.Lib.Bytealg
import Derived.Lib.Join
import Derived.Lib.Fields
import Derived.Lib.ItoaNum
import Derived.Lib.AtoiAll
set_option linter.unusedVariables false
set_option linter.unnecessarySimpa false
set_option linter.unusedSimpArgs false
set_option maxRecDepth 100000
set_option maxHeartbeats 4000000
namespace Go.Proofs.YtkdhppfdiagglaaGreatDoor
open Go Go.Abs
def zJk:Option Bool:=some true
def zBp(F_law26_kindNodes:zMY->Int->Option Int)(k1:zMY)(depth2:Int):Nat->Int->Nat->Option ((Int) ⊕ (Int))
 |0,_,_=>none
 |k9+1,n3,i4=>
  if ltI i4 k1.L.length then
   (k1.L[i4]?).bind fun x13=>
   if (ltI 12 n3)||(eqI depth2 0) then
    some (.inl 13)
   else
    (chk .i64 (depth2-1)).bind fun n23=>
    (F_law26_kindNodes x13 n23).bind fun v28=>
    (chk .i64 (n3+v28)).bind fun n30=>
    zBp F_law26_kindNodes k1 depth2 k9 n30 (i4+1)
  else
   some (.inr n3)
def zBQ:Nat->zMY->Int->Option Int
 |0,_,_=>none
 |fuel+1,k1,depth2=>
  (zBp (zBQ fuel) k1 depth2 fuel 1 0).bind fun o=>Sum.elim some (fun o5=>
   some o5) o
def zBO(fuel:Nat)(l1:List zMY):Nat->Int->Nat->Option Int
 |0,_,_=>none
 |k15+1,left10,i11=>
  if (ltI i11 l1.length)&&(leI 0 left10) then
   ((l1[i11]?).bind fun x29=>
   (zBQ fuel x29 12).bind fun v31=>
   if ltI 12 v31 then
    some (-1)
   else
    some left10:Option Int).bind fun j27=>
   zBO fuel l1 k15 j27 (i11+1)
  else
   some left10
def zA8(fuel:Nat)(l1:List zMY)(w2:zMX):Option (zMX):=
 (if ltI 40 l1.length then
  some (-1)
 else
  some w2.left:Option Int).bind fun j3=>
 (zBO fuel l1 fuel j3 0).bind fun o12=>
 some (zMX.mk o12)
def zBa(F_law26_counter_con:zMZ->Int->zMX->Option (zMX))(x1:zMZ)(depth2:Int):Nat->Int->Nat->Option Int
 |0,_,_=>none
 |k21+1,left16,i17=>
  if (ltI i17 x1.L.length)&&(leI 0 left16) then
   (x1.L[i17]?).bind fun x33=>
   (chk .i64 (depth2-1)).bind fun n35=>
   (F_law26_counter_con x33 n35 (zMX.mk left16)).bind fun v40=>
   zBa F_law26_counter_con x1 depth2 k21 v40.left (i17+1)
  else
   some left16
def zBG:Nat->zMZ->Int->zMX->Option (zMX)
 |0,_,_,_=>none
 |fuel+1,x1,depth2,w3=>
  (chk .i64 (w3.left-1)).bind fun n4=>
  (if eqI depth2 0 then
   some (-1)
  else
   some n4:Option Int).bind fun j9=>
  (zA8 fuel [x1.Kind] (zMX.mk j9)).bind fun v14=>
  (zBa (zBG fuel) x1 depth2 fuel v14.left 0).bind fun o18=>
  some (zMX.mk o18)
def zBZ(F_law26_counter_sem:zMa->Int->zMX->Option (zMX))(x1:zMa)(depth2:Int):Nat->Int->Nat->Option Int
 |0,_,_=>none
 |k27+1,left22,i23=>
  if (ltI i23 x1.L.length)&&(leI 0 left22) then
   (x1.L[i23]?).bind fun x39=>
   (chk .i64 (depth2-1)).bind fun n41=>
   (F_law26_counter_sem x39 n41 (zMX.mk left22)).bind fun v46=>
   zBZ F_law26_counter_sem x1 depth2 k27 v46.left (i23+1)
  else
   some left22
def zBF:Nat->zMa->Int->zMX->Option (zMX)
 |0,_,_,_=>none
 |fuel+1,x1,depth2,w3=>
  (chk .i64 (w3.left-1)).bind fun n4=>
  (if eqI depth2 0 then
   some (-1)
  else
   some n4:Option Int).bind fun j9=>
  (zBG fuel x1.Con 40 (zMX.mk j9)).bind fun v14=>
  (zA8 fuel x1.Kinds v14).bind fun v16=>
  (zA8 fuel x1.More v16).bind fun v18=>
  (zA8 fuel [x1.Kind] v18).bind fun v20=>
  (zBZ (zBF fuel) x1 depth2 fuel v20.left 0).bind fun o24=>
  some (zMX.mk o24)
def zEX(fuel:Nat)(a1:zMb):Option Bool:=
 (zA8 fuel a1.Kinds (zMX.mk 400)).bind fun v2=>
 (zBF fuel a1.S 40 v2).bind fun v4=>
 some (ltI v4.left 0)
def zAZ(fuel:Nat)(s1:List zMb):Nat->Nat->Option ((Int) ⊕ (Unit))
 |0,_=>none
 |k7+1,i2=>
  if ltI i2 s1.length then
   (s1[i2]?).bind fun x11=>
   (zEX fuel x11).bind fun v13=>
   if v13 then
    some (.inl ((i2:Nat):Int))
   else
    zAZ fuel s1 k7 (i2+1)
  else
   some (.inr ())
def zBX(fuel:Nat)(s1:List zMb):Option Int:=
 (zAZ fuel s1 fuel 0).bind fun o=>Sum.elim some (fun o3=>
  some (-1)) o
def zBD(fuel:Nat)(s1:List zMb):Option Bool:=
 (zBX fuel s1).bind fun v2=>
 some (leI 0 v2)
def zFm(fuel:Nat)(l1:List zMb):Option Bool:=
 (zBD fuel l1).bind fun v2=>
 some v2
def zBu(F_ref09_SameKind:zMY->zMY->Option Bool)(a1:zMY)(b2:zMY):Nat->Nat->Option ((Bool) ⊕ (Unit))
 |0,_=>none
 |k13+1,i8=>
  if ltI i8 a1.L.length then
   (a1.L[i8]?).bind fun x17=>
   (b2.L[i8]?).bind fun x19=>
   (F_ref09_SameKind x17 x19).bind fun v21=>
   if !v21 then
    some (.inl false)
   else
    zBu F_ref09_SameKind a1 b2 k13 (i8+1)
  else
   some (.inr ())
def zBB:Nat->zMY->zMY->Option Bool
 |0,_,_=>none
 |fuel+1,a1,b2=>
  if !(eqI a1.L.length b2.L.length) then
   some false
  else
   (zBu (zBB fuel) a1 b2 fuel 0).bind fun o=>Sum.elim some (fun o9=>
    some true) o
def zBo(fuel:Nat)(a1:List zMY)(b2:List zMY):Nat->Nat->Option ((Bool) ⊕ (Unit))
 |0,_=>none
 |k13+1,i8=>
  if ltI i8 a1.length then
   (a1[i8]?).bind fun x17=>
   (b2[i8]?).bind fun x19=>
   (zBB fuel x17 x19).bind fun v21=>
   if !v21 then
    some (.inl false)
   else
    zBo fuel a1 b2 k13 (i8+1)
  else
   some (.inr ())
def zB3(fuel:Nat)(a1:List zMY)(b2:List zMY):Option Bool:=
 if !(eqI a1.length b2.length) then
  some false
 else
  (zBo fuel a1 b2 fuel 0).bind fun o=>Sum.elim some (fun o9=>
   some true) o
def zFN(s1:zMa):Option Bool:=
 some ((eqI s1.Op 5)||(eqI s1.Op 6))
def zA2(l1:(List (List UInt8))):Nat->Nat->Option ((Bool) ⊕ (Unit))
 |0,_=>none
 |k7+1,i2=>
  if ltI i2 l1.length then
   (idx l1 (((i2:Nat):Int)-1)).bind fun x12=>
   (l1[i2]?).bind fun x16=>
   if !(ltS x12 x16) then
    some (.inl false)
   else
    zA2 l1 k7 (i2+1)
  else
   some (.inr ())
def zBm(fuel:Nat)(l1:(List (List UInt8))):Option Bool:=
 (zA2 l1 fuel 1).bind fun o=>Sum.elim some (fun o3=>
  some true) o
def zE3(kind1:Int):Option ((List UInt8)):=
 if eqI kind1 1 then
  some [118,97,108,46]
 else if eqI kind1 2 then
  some [116,121,112,101,46]
 else if eqI kind1 3 then
  some [99,111,110,46]
 else if eqI kind1 4 then
  some [109,111,100,46]
 else if eqI kind1 5 then
  some [115,105,103,46]
 else
  some []
def zCz(s1:List UInt8)(prefix2:List UInt8):Option Bool:=
 (if leI prefix2.length s1.length then
  (subC s1 0 (prefix2.length:Int)).bind fun s7=>
  some (eqS s7 prefix2)
 else
  some false:Option Bool).bind fun b14=>
 some b14
def zC0(s1:List UInt8)(prefix2:List UInt8):Option ((List UInt8)×Bool):=
 (zCz s1 prefix2).bind fun v3=>
 if !v3 then
  some (s1,false)
 else
  (subC s1 (prefix2.length:Int) (s1.length:Int)).bind fun s8=>
  some (s8,true)
def zDA(s1:List UInt8)(prefix2:List UInt8):Option ((List UInt8)×Bool):=
 (zC0 s1 prefix2).bind fun v3=>
 some (v3.1,v3.2)
def zDp(c1:UInt8):Option Int:=
 if (leI 97 c1.toNat)&&(leI c1.toNat 122) then
  some 1
 else if (leI 65 c1.toNat)&&(leI c1.toNat 90) then
  some 2
 else if (leI 48 c1.toNat)&&(leI c1.toNat 57) then
  some 3
 else if eqI c1.toNat 95 then
  some 4
 else if eqI c1.toNat 46 then
  some 5
 else
  some 0
def zCl(l16:List UInt8):Nat->Nat->Option ((Bool) ⊕ (Unit))
 |0,_=>none
 |k25+1,i20=>
  if ltI i20 l16.length then
   (l16[i20]?).bind fun x29=>
   (zDp x29).bind fun v31=>
   if (eqI v31 0)||(eqI v31 5) then
    some (.inl false)
   else
    zCl l16 k25 (i20+1)
  else
   some (.inr ())
def zEB(fuel:Nat)(s1:List UInt8)(first2:Int):Option Bool:=
 (if eqS s1 [] then
  some true
 else if ltI 24 s1.length then
  some true
 else
  (s1[0]?).bind fun c9=>
  (zDp c9).bind fun v11=>
  some (!(eqI v11 first2)):Option Bool).bind fun b13=>
 if b13 then
  some false
 else
  (bytesC s1).bind fun l16=>
  (zCl l16 fuel 0).bind fun o=>Sum.elim some (fun o21=>
   some true) o
def zDY(s:List UInt8):Option (List (List UInt8)):=if s.length<4294967281∧s.all (fun c=>decide (c.toNat<128))=true∧(Lib.fields s).length<=100000∧(Lib.fields s).all (fun z=>decide (z.length<=100000))=true then some (Lib.fields s) else none
def zAy(s1:(List (List UInt8)))(v2:List UInt8):Nat->Nat->Option ((Int) ⊕ (Unit))
 |0,_=>none
 |k8+1,i3=>
  if ltI i3 s1.length then
   (s1[i3]?).bind fun x12=>
   if eqS v2 x12 then
    some (.inl ((i3:Nat):Int))
   else
    zAy s1 v2 k8 (i3+1)
  else
   some (.inr ())
def zDT(fuel:Nat)(s1:(List (List UInt8)))(v2:List UInt8):Option Int:=
 (zAy s1 v2 fuel 0).bind fun o=>Sum.elim some (fun o4=>
  some (-1)) o
def zBh(fuel:Nat)(s1:(List (List UInt8)))(v2:List UInt8):Option Bool:=
 (zDT fuel s1 v2).bind fun v3=>
 some (leI 0 v3)
def zGI(fuel:Nat)(s1:List UInt8):Option Bool:=
 (zDY [97,110,100,97,108,115,111,32,99,97,115,101,32,100,97,116,97,32,100,105,118,32,101,108,115,101,32,101,110,100,32,102,110,32,102,117,110,32,102,117,110,99,116,111,114,32,103,101,110,101,114,97,116,105,118,101,32,105,102,32,105,109,112,111,114,116,32,105,110,32,105,110,99,108,117,100,101,32,108,101,116,32,109,111,100,32,109,111,100,117,108,101,32,111,102,32,111,112,101,110,32,111,114,101,108,115,101,32,112,97,99,107,32,115,104,97,114,105,110,103,32,115,105,103,32,115,105,103,110,97,116,117,114,101,32,115,116,114,117,99,116,32,115,116,114,117,99,116,117,114,101,32,116,104,101,110,32,116,121,112,101,32,117,110,112,97,99,107,32,118,97,108,32,119,105,116,104]).bind fun v2=>
 (zBh fuel v2 s1).bind fun v4=>
 some v4
def zEY(fuel:Nat)(s1:List UInt8):Option Bool:=
 ((zEB fuel s1 1).bind fun v2=>
 if v2 then
  (zGI fuel s1).bind fun v5=>
  some (!v5)
 else
  some false:Option Bool).bind fun b7=>
 some b7
def zDR(fuel:Nat)(s1:List UInt8):Option Bool:=
 (zEB fuel s1 2).bind fun v2=>
 some v2
def zGJ(fuel:Nat)(kind1:Int)(zKy:List UInt8):Option Bool:=
 if (eqI kind1 1)||(eqI kind1 2) then
  (zEY fuel zKy).bind fun v7=>
  some v7
 else
  (zDR fuel zKy).bind fun v14=>
  some v14
def zCP(fuel:Nat)(label1:List UInt8):Nat->Nat->Option ((Int×(List UInt8)×Int) ⊕ (Unit))
 |0,_=>none
 |k7+1,kind2=>
  if leI kind2 5 then
   (zE3 ((kind2:Nat):Int)).bind fun v10=>
   (zDA label1 v10).bind fun v12=>
   (if v12.2 then
    (zGJ fuel ((kind2:Nat):Int) v12.1).bind fun v15=>
    some v15
   else
    some false:Option Bool).bind fun b17=>
   if b17 then
    some (.inl (((kind2:Nat):Int),v12.1,0))
   else
    zCP fuel label1 k7 (kind2+1)
  else
   some (.inr ())
def zFn(fuel:Nat)(label1:List UInt8):Option (Int×(List UInt8)×Int):=
 (zCP fuel label1 fuel 1).bind fun o=>Sum.elim some (fun o3=>
  some (0,[],3)) o
def zGr(fuel:Nat)(label1:List UInt8)(s2:zMa):Option Bool:=
 (zFn fuel label1).bind fun v3=>
 if !(eqI v3.2.2 0) then
  some false
 else if eqI v3.1 1 then
  some (eqI s2.Op 1)
 else if eqI v3.1 2 then
  some (eqI s2.Op 2)
 else if eqI v3.1 3 then
  some ((eqI s2.Op 3)&&(eqS s2.S v3.2.1))
 else if eqI v3.1 4 then
  (zFN s2).bind fun v24=>
  some v24
 else
  some (eqI s2.Op 4)
def zDk(fuel:Nat)(s1:zMa):Nat->Nat->Option ((Bool) ⊕ (Unit))
 |0,_=>none
 |k66+1,i61=>
  if ltI i61 s1.Names.length then
   (s1.Names[i61]?).bind fun x70=>
   (s1.L[i61]?).bind fun x72=>
   (zGr fuel x70 x72).bind fun v74=>
   if !v74 then
    some (.inl false)
   else
    zDk fuel s1 k66 (i61+1)
  else
   some (.inr ())
def zGq(fuel:Nat)(s1:zMa):Option Bool:=
 (if eqI s1.Op 1 then
  some (eqI s1.Op 1)
 else if eqI s1.Op 2 then
  some (eqI s1.Op 2)
 else
  some (eqI s1.Op 3):Option Bool).bind fun j2=>
 if j2 then
  some (eqI s1.L.length 0)
 else if eqI s1.Op 4 then
  (if eqI s1.L.length 1 then
   (s1.L[0]?).bind fun x15=>
   (zFN x15).bind fun v17=>
   some v17
  else
   some false:Option Bool).bind fun b20=>
  some b20
 else if eqI s1.Op 6 then
  (if eqI s1.L.length 2 then
   (s1.L[0]?).bind fun x28=>
   (zFN x28).bind fun v30=>
   if v30 then
    (s1.L[1]?).bind fun x33=>
    (zFN x33).bind fun v35=>
    some v35
   else
    some false
  else
   some false:Option Bool).bind fun b38=>
  some b38
 else if eqI s1.Op 5 then
  (if !(eqI s1.L.length s1.Names.length) then
   some true
  else if ltI 1000 s1.Names.length then
   some true
  else
   (zBm fuel s1.Names).bind fun v56=>
   some (!v56):Option Bool).bind fun b58=>
  if b58 then
   some false
  else
   (zDk fuel s1 fuel 0).bind fun o=>Sum.elim some (fun o62=>
    some true) o
 else
  some false
def zDF(op1:Int):Option Bool:=
 some ((eqI op1 1)||((eqI op1 2)||(eqI op1 3)))
def zDE(F_tycon_Size:zMZ->Option Int)(c1:zMZ):Nat->Int->Nat->Option Int
 |0,_,_=>none
 |k7+1,n2,i3=>
  if ltI i3 c1.L.length then
   (c1.L[i3]?).bind fun x11=>
   (F_tycon_Size x11).bind fun v13=>
   (chk .i64 (n2+v13)).bind fun n15=>
   zDE F_tycon_Size c1 k7 n15 (i3+1)
  else
   some n2
def zCC:Nat->zMZ->Option Int
 |0,_=>none
 |fuel+1,c1=>
  (zDE (zCC fuel) c1 fuel 1 0).bind fun o4=>
  some o4
def zCt(F_tycon_depth:zMZ->Option Int)(c1:zMZ):Nat->Int->Nat->Option Int
 |0,_,_=>none
 |k7+1,n2,i3=>
  if ltI i3 c1.L.length then
   (c1.L[i3]?).bind fun x11=>
   (F_tycon_depth x11).bind fun v13=>
   zCt F_tycon_depth c1 k7 (maxI n2 v13) (i3+1)
  else
   some n2
def zCd:Nat->zMZ->Option Int
 |0,_=>none
 |fuel+1,c1=>
  (zCt (zCd fuel) c1 fuel 0 0).bind fun o4=>
  (chk .i64 (o4+1)).bind fun n20=>
  some n20
def zBP(c1:zMZ):Option Bool:=
 some ((eqI c1.Op 7)||(eqI c1.Op 8))
def zBf(c1:zMZ):Option Bool:=
 some ((eqI c1.Op 9)||((eqI c1.Op 10)||((eqI c1.Op 11)||(eqI c1.Op 13))))
def zCc(c1:zMZ):Option Int:=
 if (ltI c1.Op 1)||(ltI 13 c1.Op) then
  some (-1)
 else
  (zBP c1).bind fun v10=>
  if v10 then
   some (c1.Names.length:Int)
  else
   (zBf c1).bind fun v13=>
   if v13 then
    some 1
   else if (eqI c1.Op 6)||(eqI c1.Op 12) then
    some 2
   else
    some 0
def zDx(s t:List UInt8):Option Int:=match t with
 |[c]=>some (Lib.indexByte s c)
 |_=>none
def zEd(s1:List UInt8)(sep2:List UInt8):Option ((List UInt8)×(List UInt8)×Bool):=
 (zDx s1 sep2).bind fun v3=>
 if leI 0 v3 then
  (subC s1 0 v3).bind fun s7=>
  (chk .i64 (v3+(sep2.length:Int))).bind fun n11=>
  (subC s1 n11 (s1.length:Int)).bind fun s16=>
  some (s7,s16,true)
 else
  some (s1,[],false)
def zFf(s1:List UInt8)(sep2:List UInt8):Option ((List UInt8)×(List UInt8)×Bool):=
 (zEd s1 sep2).bind fun v3=>
 some (v3.1,v3.2.1,v3.2.2)
def zE0(s:List UInt8):Option (Int×Bool):=if s.length<=140737488355328 then (match Lib.atoiAll s with
 |.ok v=>some (v,false)
 |.range=>some (Lib.atoiSat s,true)
 |_=>some (0,true)) else none
def zB5(l13:List UInt8):Nat->Nat->Option ((Int×Int) ⊕ (Unit))
 |0,_=>none
 |k22+1,i17=>
  if ltI i17 l13.length then
   (l13[i17]?).bind fun x26=>
   (zDp x26).bind fun v28=>
   if !(eqI v28 3) then
    some (.inl (0,3))
   else
    zB5 l13 k22 (i17+1)
  else
   some (.inr ())
def zE4(fuel:Nat)(s1:List UInt8):Option (Int×Int):=
 (if eqS s1 [] then
  some true
 else if ltI 1 s1.length then
  (s1[0]?).bind fun c6=>
  some (eqI c6.toNat 48)
 else
  some false:Option Bool).bind fun b10=>
 if b10 then
  some (0,3)
 else
  (bytesC s1).bind fun l13=>
  (zB5 l13 fuel 0).bind fun o=>Sum.elim some (fun o18=>
   (zE0 s1).bind fun v40=>
   if v40.2 then
    some (0,6)
   else if ltI 4503599627370496 v40.1 then
    some (0,6)
   else
    some (v40.1,0)) o
def zDX(fuel:Nat)(s1:List UInt8):Option Bool:=
 (zFf s1 [46]).bind fun v2=>
 (zE4 fuel v2.2.1).bind fun v4=>
 (if v2.2.2 then
  if leI s1.length 48 then
   (zDR fuel v2.1).bind fun v10=>
   if v10 then
    some (eqI v4.2 0)
   else
    some false
  else
   some false
 else
  some false:Option Bool).bind fun b15=>
 some b15
def zBx(F_kind_size:zMY->Int->Int->Option (Int×Bool))(k1:zMY)(left2:Int)(depth3:Int):Nat->Int->Nat->Option ((Int×Bool) ⊕ (Int))
 |0,_,_=>none
 |k28+1,n22,i23=>
  if ltI i23 k1.L.length then
   (k1.L[i23]?).bind fun x32=>
   (chk .i64 (left2-n22)).bind fun n34=>
   (chk .i64 (depth3+1)).bind fun n39=>
   (F_kind_size x32 n34 n39).bind fun v44=>
   if !v44.2 then
    some (.inl (0,false))
   else
    (chk .i64 (n22+v44.1)).bind fun n49=>
    zBx F_kind_size k1 left2 depth3 k28 n49 (i23+1)
  else
   some (.inr n22)
def zC4:Nat->zMY->Int->Int->Option (Int×Bool)
 |0,_,_,_=>none
 |fuel+1,k1,left2,depth3=>
  if (leI left2 0)||((ltI 400 depth3)||((!(eqI k1.L.length 0))&&(!(eqI k1.L.length 2)))) then
   some (0,false)
  else
   (zBx (zC4 fuel) k1 left2 depth3 fuel 1 0).bind fun o=>Sum.elim some (fun o24=>
    some (o24,true)) o
def zBy(fuel:Nat)(k1:zMY):Option Bool:=
 (zC4 fuel k1 20000 1).bind fun v2=>
 some v2.2
def zCF(l8:List UInt8):Nat->Nat->Option ((Bool) ⊕ (Unit))
 |0,_=>none
 |k17+1,i12=>
  if ltI i12 l8.length then
   (l8[i12]?).bind fun x21=>
   (zDp x21).bind fun v23=>
   if eqI v23 0 then
    some (.inl false)
   else
    zCF l8 k17 (i12+1)
  else
   some (.inr ())
def zEZ(fuel:Nat)(s1:List UInt8):Option Bool:=
 if (eqS s1 [])||(ltI 48 s1.length) then
  some false
 else
  (bytesC s1).bind fun l8=>
  (zCF l8 fuel 0).bind fun o=>Sum.elim some (fun o13=>
   some true) o
def zD7(fuel:Nat)(s1:List UInt8):Option Bool:=
 (zEZ fuel s1).bind fun v2=>
 some (!v2)
def zAY(fuel:Nat)(s1:(List (List UInt8))):Nat->Nat->Option ((Int) ⊕ (Unit))
 |0,_=>none
 |k7+1,i2=>
  if ltI i2 s1.length then
   (s1[i2]?).bind fun x11=>
   (zD7 fuel x11).bind fun v13=>
   if v13 then
    some (.inl ((i2:Nat):Int))
   else
    zAY fuel s1 k7 (i2+1)
  else
   some (.inr ())
def zBW(fuel:Nat)(s1:(List (List UInt8))):Option Int:=
 (zAY fuel s1 fuel 0).bind fun o=>Sum.elim some (fun o3=>
  some (-1)) o
def zAO(fuel:Nat)(s1:(List (List UInt8))):Option Bool:=
 (zBW fuel s1).bind fun v2=>
 some (leI 0 v2)
def zAW(F_tycon_formed_2:zMZ->Option Bool)(s1:List zMZ):Nat->Nat->Option ((Int) ⊕ (Unit))
 |0,_=>none
 |k7+1,i2=>
  if ltI i2 s1.length then
   (s1[i2]?).bind fun x11=>
   (F_tycon_formed_2 x11).bind fun v13=>
   if v13 then
    some (.inl ((i2:Nat):Int))
   else
    zAW F_tycon_formed_2 s1 k7 (i2+1)
  else
   some (.inr ())
mutual
def zCM:Nat->zMZ->Option Bool
 |0,_=>none
 |fuel+1,x1=>
  ((zC9 fuel) x1).bind fun v2=>
  some (!v2)
def zAu:Nat->(List zMZ)->Option Int
 |0,_=>none
 |fuel+1,s1=>
  (zAW (zCM fuel) s1 fuel 0).bind fun o=>Sum.elim some (fun o3=>
   some (-1)) o
def zAN:Nat->(List zMZ)->Option Bool
 |0,_=>none
 |fuel+1,s1=>
  ((zAu fuel) s1).bind fun v2=>
  some (leI 0 v2)
def zC9:Nat->zMZ->Option Bool
 |0,_=>none
 |fuel+1,c1=>
  (zCc c1).bind fun v2=>
  if !(eqI c1.L.length v2) then
   some false
  else
   ((if eqI c1.Op 1 then
    some (eqI c1.Op 1)
   else
    some (eqI c1.Op 3):Option Bool).bind fun j12=>
   if j12 then
    if (ltI c1.N 0)||(ltI 20000 c1.N) then
     some (.inl false)
    else
     some (.inr ())
   else if !(eqI c1.N 0) then
    some (.inl false)
   else
    some (.inr ()):Option (Bool ⊕ Unit)).bind fun o=>Sum.elim some (fun j9=>
    (if eqI c1.Op 2 then
     (zDX fuel c1.S).bind fun v33=>
     if !v33 then
      some true
     else
      some false
    else
     some (!(eqS c1.S [])):Option Bool).bind fun b39=>
    if b39 then
     some false
    else
     ((zBf c1).bind fun v42=>
     if v42 then
      some true
     else
      some (eqI c1.Op 2):Option Bool).bind fun b45=>
     (if b45 then
      (zBy fuel c1.Kind).bind fun v48=>
      if !v48 then
       some true
      else
       some false
     else
      some (ltI 0 c1.Kind.L.length):Option Bool).bind fun b53=>
     if b53 then
      some false
     else
      (if ltI 0 c1.Names.length then
       (zBP c1).bind fun v59=>
       if !v59 then
        some true
       else if ltI 1000 c1.Names.length then
        some true
       else
        (zBm fuel c1.Names).bind fun v67=>
        if !v67 then
         some true
        else
         (zAO fuel c1.Names).bind fun v72=>
         some v72
      else if ltI 1000 c1.Names.length then
       some true
      else
       (zBm fuel c1.Names).bind fun v79=>
       if !v79 then
        some true
       else
        (zAO fuel c1.Names).bind fun v84=>
        some v84:Option Bool).bind fun b86=>
      if b86 then
       some false
      else
       ((zAN fuel) c1.L).bind fun v89=>
       some (!v89)) o
end
def zB2(fuel:Nat)(c1:zMZ):Option Bool:=
 ((zCC fuel c1).bind fun v2=>
 if leI v2 20000 then
  (zCd fuel c1).bind fun v6=>
  if leI v6 400 then
   (zC9 fuel c1).bind fun v10=>
   some v10
  else
   some false
 else
  some false:Option Bool).bind fun b14=>
 some b14
def zAc(F_tycon_same:zMY->zMY->Option Bool)(s11:List zMY)(s22:List zMY):Nat->Nat->Option ((Bool) ⊕ (Unit))
 |0,_=>none
 |k13+1,i8=>
  if ltI i8 s11.length then
   (s11[i8]?).bind fun x17=>
   (s22[i8]?).bind fun x19=>
   (F_tycon_same x17 x19).bind fun v21=>
   if !v21 then
    some (.inl false)
   else
    zAc F_tycon_same s11 s22 k13 (i8+1)
  else
   some (.inr ())
mutual
def zA9:Nat->(List zMY)->(List zMY)->Option Bool
 |0,_,_=>none
 |fuel+1,s11,s22=>
  if !(eqI s11.length s22.length) then
   some false
  else
   (zAc (zCs fuel) s11 s22 fuel 0).bind fun o=>Sum.elim some (fun o9=>
    some true) o
def zCs:Nat->zMY->zMY->Option Bool
 |0,_,_=>none
 |fuel+1,a1,b2=>
  ((zA9 fuel) a1.L b2.L).bind fun v3=>
  some v3
end
def zBL(s11:(List (List UInt8)))(s22:(List (List UInt8))):Nat->Nat->Option ((Bool) ⊕ (Unit))
 |0,_=>none
 |k13+1,i8=>
  if ltI i8 s11.length then
   (s11[i8]?).bind fun x17=>
   (s22[i8]?).bind fun x19=>
   if !(eqS x17 x19) then
    some (.inl false)
   else
    zBL s11 s22 k13 (i8+1)
  else
   some (.inr ())
def zB0(fuel:Nat)(s11:(List (List UInt8)))(s22:(List (List UInt8))):Option Bool:=
 if !(eqI s11.length s22.length) then
  some false
 else
  (zBL s11 s22 fuel 0).bind fun o=>Sum.elim some (fun o9=>
   some true) o
def zAd(F_tycon_Equal:zMZ->zMZ->Option Bool)(s11:List zMZ)(s22:List zMZ):Nat->Nat->Option ((Bool) ⊕ (Unit))
 |0,_=>none
 |k13+1,i8=>
  if ltI i8 s11.length then
   (s11[i8]?).bind fun x17=>
   (s22[i8]?).bind fun x19=>
   (F_tycon_Equal x17 x19).bind fun v21=>
   if !v21 then
    some (.inl false)
   else
    zAd F_tycon_Equal s11 s22 k13 (i8+1)
  else
   some (.inr ())
mutual
def zBA:Nat->(List zMZ)->(List zMZ)->Option Bool
 |0,_,_=>none
 |fuel+1,s11,s22=>
  if !(eqI s11.length s22.length) then
   some false
  else
   (zAd (zBq fuel) s11 s22 fuel 0).bind fun o=>Sum.elim some (fun o9=>
    some true) o
def zBq:Nat->zMZ->zMZ->Option Bool
 |0,_,_=>none
 |fuel+1,a1,b2=>
  (if eqI a1.Op b2.Op then
   if eqI a1.N b2.N then
    if eqS a1.S b2.S then
     (zCs fuel a1.Kind b2.Kind).bind fun v8=>
     if v8 then
      (zB0 fuel a1.Names b2.Names).bind fun v11=>
      if v11 then
       ((zBA fuel) a1.L b2.L).bind fun v14=>
       some v14
      else
       some false
     else
      some false
    else
     some false
   else
    some false
  else
   some false:Option Bool).bind fun b18=>
  some b18
end
def zFg(fuel:Nat)(k1:zMY):Option Bool:=
 (zBy fuel k1).bind fun v2=>
 some (!v2)
def zAU(fuel:Nat)(s1:List zMY):Nat->Nat->Option ((Int) ⊕ (Unit))
 |0,_=>none
 |k7+1,i2=>
  if ltI i2 s1.length then
   (s1[i2]?).bind fun x11=>
   (zFg fuel x11).bind fun v13=>
   if v13 then
    some (.inl ((i2:Nat):Int))
   else
    zAU fuel s1 k7 (i2+1)
  else
   some (.inr ())
def zBR(fuel:Nat)(s1:List zMY):Option Int:=
 (zAU fuel s1 fuel 0).bind fun o=>Sum.elim some (fun o3=>
  some (-1)) o
def zA6(fuel:Nat)(s1:List zMY):Option Bool:=
 (zBR fuel s1).bind fun v2=>
 some (leI 0 v2)
def zFO(fuel:Nat)(l1:List zMY):Option Bool:=
 (if leI l1.length 1000 then
  (zA6 fuel l1).bind fun v5=>
  some (!v5)
 else
  some false:Option Bool).bind fun b9=>
 some b9
def zHt(fuel:Nat)(s1:zMa):Option Bool:=
 ((zGq fuel s1).bind fun v2=>
 if !v2 then
  some true
 else if !(eqI s1.Op 5) then
  some (ltI 0 s1.Names.length)
 else
  some false:Option Bool).bind fun b12=>
 if b12 then
  some false
 else
  ((zDF s1.Op).bind fun v15=>
  if v15 then
   (zB2 fuel s1.Con).bind fun v18=>
   if !v18 then
    some true
   else
    (zDF s1.Op).bind fun v23=>
    if !v23 then
     (zBq fuel s1.Con (zMZ.mk 0 0 [] (zMY.mk []) [] [])).bind fun v27=>
     some (!v27)
    else
     some false
  else
   (zDF s1.Op).bind fun v30=>
   if !v30 then
    (zBq fuel s1.Con (zMZ.mk 0 0 [] (zMY.mk []) [] [])).bind fun v34=>
    some (!v34)
   else
    some false:Option Bool).bind fun b37=>
  if b37 then
   some false
  else
   (if eqI s1.Op 2 then
    (zBy fuel s1.Kind).bind fun v42=>
    if !v42 then
     some true
    else
     some false
   else
    some (ltI 0 s1.Kind.L.length):Option Bool).bind fun b48=>
   if b48 then
    some false
   else
    (if eqI s1.Op 3 then
     (zDR fuel s1.S).bind fun v53=>
     if !v53 then
      some true
     else
      some false
    else
     some (!(eqS s1.S [])):Option Bool).bind fun b59=>
    if b59 then
     some false
    else if eqI s1.Op 4 then
     (if eqI s1.N 0 then
      (zFO fuel s1.Kinds).bind fun v66=>
      if v66 then
       some (eqI s1.More.length 0)
      else
       some false
     else
      some false:Option Bool).bind fun b70=>
     some b70
    else if eqI s1.Op 6 then
     ((zFO fuel s1.Kinds).bind fun v77=>
     if v77 then
      (zFO fuel s1.More).bind fun v80=>
      if v80 then
       if eqI s1.N 0 then
        some true
       else if eqI s1.N 1 then
        some (eqI s1.More.length 0)
       else
        some false
      else
       some false
     else
      some false:Option Bool).bind fun b89=>
     some b89
    else
     some ((eqI s1.N 0)&&((eqI s1.Kinds.length 0)&&(eqI s1.More.length 0)))
def zCu(F_sem_measure:zMa->Int->Int->Option (Int×Bool))(s1:zMa)(left2:Int)(depth3:Int):Nat->Int->Nat->Option ((Int×Bool) ⊕ (Int))
 |0,_,_=>none
 |k35+1,n29,i30=>
  if ltI i30 s1.L.length then
   (s1.L[i30]?).bind fun x39=>
   (chk .i64 (left2-n29)).bind fun n41=>
   (chk .i64 (depth3+1)).bind fun n46=>
   (F_sem_measure x39 n41 n46).bind fun v51=>
   if !v51.2 then
    some (.inl (0,false))
   else
    (chk .i64 (n29+v51.1)).bind fun n56=>
    zCu F_sem_measure s1 left2 depth3 k35 n56 (i30+1)
  else
   some (.inr n29)
def zCN:Nat->zMa->Int->Int->Option (Int×Bool)
 |0,_,_,_=>none
 |fuel+1,s1,left2,depth3=>
  (if leI left2 0 then
   some true
  else if ltI 400 depth3 then
   some true
  else
   (zHt fuel s1).bind fun v10=>
   some (!v10):Option Bool).bind fun b12=>
  if b12 then
   some (0,false)
  else
   ((zDF s1.Op).bind fun v17=>
   if v17 then
    (zCC fuel s1.Con).bind fun v20=>
    (chk .i64 (1+v20)).bind fun n22=>
    some n22
   else
    some 1:Option Int).bind fun j15=>
   (zCu (zCN fuel) s1 left2 depth3 fuel j15 0).bind fun o=>Sum.elim some (fun o31=>
    some (o31,leI o31 left2)) o
def zBn(fuel:Nat)(s1:zMa):Option Bool:=
 (zCN fuel s1 20000 1).bind fun v2=>
 some v2.2
def zA5(s1:List zMY):Option (List zMY):=match s1 with
 |[]=>some []
 |x::s=>clC 24 (x::s)
def zA7(s1:List (List UInt8)):Option (List (List UInt8)):=match s1 with
 |[]=>some []
 |x::s=>clC 16 (x::s)
def zCx(F_normal_size:zMZ->Option (Int×Int))(c1:zMZ):Nat->Int->Int->Nat->Option (Int×Int)
 |0,_,_,_=>none
 |k8+1,nodes2,depth3,i4=>
  if ltI i4 c1.L.length then
   (c1.L[i4]?).bind fun x12=>
   (F_normal_size x12).bind fun v14=>
   (chk .i64 (nodes2+v14.1)).bind fun n16=>
   zCx F_normal_size c1 k8 n16 (maxI depth3 v14.2) (i4+1)
  else
   some (depth3,nodes2)
def zCj:Nat->zMZ->Option (Int×Int)
 |0,_=>none
 |fuel+1,c1=>
  (zCx (zCj fuel) c1 fuel 1 0 0).bind fun o5=>
  (chk .i64 (o5.1+1)).bind fun n28=>
  some (o5.2,n28)
def zB1(fuel:Nat)(c1:zMZ)(w2:zMW):Option (zMZ×zMW):=
 if w2.over then
  some ((zMZ.mk 0 0 [] (zMY.mk []) [] []),w2)
 else
  (zCj fuel c1).bind fun v4=>
  if (ltI 20000 v4.1)||(ltI 400 v4.2) then
   some ((zMZ.mk 0 0 [] (zMY.mk []) [] []),(zMW.mk w2.steps true))
  else
   some (c1,w2)
def zFd(fuel:Nat)(c1:zMZ):Option Bool:=
 (zB2 fuel c1).bind fun v2=>
 some (!v2)
def zAb(fuel:Nat)(s1:List zMZ):Nat->Nat->Option ((Int) ⊕ (Unit))
 |0,_=>none
 |k7+1,i2=>
  if ltI i2 s1.length then
   (s1[i2]?).bind fun x11=>
   (zFd fuel x11).bind fun v13=>
   if v13 then
    some (.inl ((i2:Nat):Int))
   else
    zAb fuel s1 k7 (i2+1)
  else
   some (.inr ())
def zBg(fuel:Nat)(s1:List zMZ):Option Int:=
 (zAb fuel s1 fuel 0).bind fun o=>Sum.elim some (fun o3=>
  some (-1)) o
def zBS(fuel:Nat)(s1:List zMZ):Option Bool:=
 (zBg fuel s1).bind fun v2=>
 some (leI 0 v2)
def zGp(fuel:Nat)(l1:List zMZ):Option Bool:=
 (zBS fuel l1).bind fun v2=>
 some (!v2)
def zCR(F_tycon_kindOf:zMY->Option (zMY))(k1:zMY):Nat->(List zMY)->Nat->Option ((List zMY))
 |0,_,_=>none
 |k7+1,L2,i3=>
  if ltI i3 k1.L.length then
   (k1.L[i3]?).bind fun x11=>
   (F_tycon_kindOf x11).bind fun v13=>
   (app 24 L2 [v13]).bind fun l15=>
   zCR F_tycon_kindOf k1 k7 l15 (i3+1)
  else
   some L2
def zBl:Nat->zMY->Option (zMY)
 |0,_=>none
 |fuel+1,k1=>
  (zCR (zBl fuel) k1 fuel [] 0).bind fun o4=>
  some (zMY.mk o4)
def zEH(fuel:Nat)(c1:zMZ):Option (zMZ):=
 (zBl fuel c1.Kind).bind fun v2=>
 some (zMZ.mk c1.Op c1.N c1.S v2 [] [])
def zEz(n1:Int):Option (zMZ):=
 some (zMZ.mk 1 n1 [] (zMY.mk []) [] [])
def zFW(by1:Int)(from2:Int):Option (Int×Int):=
 some (from2,by1)
def zDn(fuel:Nat)(c1:zMZ)(binders2:Int)(a3:Int)(a4:Int):Option (zMZ):=
 (if eqI c1.Op 1 then
  (chk .i64 (c1.N-binders2)).bind fun n7=>
  some (leI a3 n7)
 else
  some false:Option Bool).bind fun b13=>
 if b13 then
  (chk .i64 (c1.N+a4)).bind fun n16=>
  (zEz n16).bind fun v21=>
  some v21
 else
  (zEH fuel c1).bind fun v24=>
  some v24
def zAv(F_tycon_maker_rebuild_v2:zMZ->Int->Int->Int->Int->Option (zMZ×Int))(c1:zMZ)(c3:Int)(c4:Int)(j37:Int):Nat->Int->(List zMZ)->Nat->Option (Int×(List zMZ))
 |0,_,_,_=>none
 |k54+1,left48,L49,i50=>
  if ltI i50 c1.L.length then
   (c1.L[i50]?).bind fun x58=>
   (F_tycon_maker_rebuild_v2 x58 j37 c3 c4 left48).bind fun v60=>
   (app 104 L49 [v60.1]).bind fun l62=>
   zAv F_tycon_maker_rebuild_v2 c1 c3 c4 j37 k54 v60.2 l62 (i50+1)
  else
   some (left48,L49)
def zAe:Nat->zMZ->Int->Int->Int->Int->Option (zMZ×Int)
 |0,_,_,_,_,_=>none
 |fuel+1,c1,binders2,c3,c4,c5=>
  if leI c5 0 then
   some ((zMZ.mk 0 0 [] (zMY.mk []) [] []),(-1))
  else if (eqI c1.Op 1)||(eqI c1.Op 2) then
   (zDn fuel c1 binders2 c3 c4).bind fun v13=>
   (zCC fuel v13).bind fun v15=>
   (chk .i64 (c5-v15)).bind fun n17=>
   some (v13,n17)
  else
   (chk .i64 (c5-1)).bind fun n28=>
   (zBl fuel c1.Kind).bind fun v33=>
   (zA7 c1.Names).bind fun v35=>
   ((zBf c1).bind fun v39=>
   if v39 then
    (chk .i64 (binders2+1)).bind fun n42=>
    some n42
   else
    some binders2:Option Int).bind fun j37=>
   (zAv (zAe fuel) c1 c3 c4 j37 fuel n28 [] 0).bind fun o51=>
   some ((zMZ.mk c1.Op c1.N c1.S v33 v35 o51.2),o51.1)
def zES(fuel:Nat)(c1:zMZ)(binders2:Int)(c3:List zMZ):Option (zMZ):=
 (chk .i64 (c1.N-binders2)).bind fun n4=>
 if (!(eqI c1.Op 1))||(ltI n4 0) then
  (zEH fuel c1).bind fun v15=>
  some v15
 else if leI c3.length n4 then
  (chk .i64 (c1.N-(c3.length:Int))).bind fun n26=>
  (zEz n26).bind fun v31=>
  some v31
 else
  (zFW binders2 0).bind fun v36=>
  (idx c3 n4).bind fun x38=>
  (zAe fuel x38 0 v36.1 v36.2 20000).bind fun v42=>
  some v42.1
def zBJ(F_tycon_maker_rebuild:zMZ->Int->Int->(List zMZ)->Option (zMZ×Int))(c1:zMZ)(c4:List zMZ)(j36:Int):Nat->Int->(List zMZ)->Nat->Option (Int×(List zMZ))
 |0,_,_,_=>none
 |k53+1,left47,L48,i49=>
  if ltI i49 c1.L.length then
   (c1.L[i49]?).bind fun x57=>
   (F_tycon_maker_rebuild x57 j36 left47 c4).bind fun v59=>
   (app 104 L48 [v59.1]).bind fun l61=>
   zBJ F_tycon_maker_rebuild c1 c4 j36 k53 v59.2 l61 (i49+1)
  else
   some (left47,L48)
def zAr:Nat->zMZ->Int->Int->(List zMZ)->Option (zMZ×Int)
 |0,_,_,_,_=>none
 |fuel+1,c1,binders2,c3,c4=>
  if leI c3 0 then
   some ((zMZ.mk 0 0 [] (zMY.mk []) [] []),(-1))
  else if (eqI c1.Op 1)||(eqI c1.Op 2) then
   (zES fuel c1 binders2 c4).bind fun v12=>
   (zCC fuel v12).bind fun v14=>
   (chk .i64 (c3-v14)).bind fun n16=>
   some (v12,n16)
  else
   (chk .i64 (c3-1)).bind fun n27=>
   (zBl fuel c1.Kind).bind fun v32=>
   (zA7 c1.Names).bind fun v34=>
   ((zBf c1).bind fun v38=>
   if v38 then
    (chk .i64 (binders2+1)).bind fun n41=>
    some n41
   else
    some binders2:Option Int).bind fun j36=>
   (zBJ (zAr fuel) c1 c4 j36 fuel n27 [] 0).bind fun o50=>
   some ((zMZ.mk c1.Op c1.N c1.S v32 v34 o50.2),o50.1)
def zCb(fuel:Nat)(c1:zMZ)(c2:List zMZ):Option (zMZ×Int):=
 (zAr fuel c1 0 20000 c2).bind fun v3=>
 (if ltI v3.2 0 then
  some true
 else
  (zB2 fuel v3.1).bind fun v8=>
  some (!v8):Option Bool).bind fun b10=>
 if b10 then
  some ((zMZ.mk 0 0 [] (zMY.mk []) [] []),6)
 else
  some (v3.1,0)
def zFe(fuel:Nat)(c1:zMZ)(l2:List zMZ):Option (zMZ×Int):=
 ((zB2 fuel c1).bind fun v3=>
 if !v3 then
  some true
 else
  (zGp fuel l2).bind fun v8=>
  some (!v8):Option Bool).bind fun b10=>
 if b10 then
  some ((zMZ.mk 0 0 [] (zMY.mk []) [] []),1)
 else if ltI 1000 l2.length then
  some ((zMZ.mk 0 0 [] (zMY.mk []) [] []),5)
 else
  (zCb fuel c1 l2).bind fun v18=>
  some (v18.1,v18.2)
def zCX(fuel:Nat)(f1:zMZ)(a2:zMZ)(w3:zMW):Option (zMZ×zMW):=
 (chk .i64 (w3.steps+1)).bind fun n4=>
 if ltI 10000 n4 then
  some ((zMZ.mk 0 0 [] (zMY.mk []) [] []),(zMW.mk n4 true))
 else if w3.over then
  some ((zMZ.mk 0 0 [] (zMY.mk []) [] []),(zMW.mk n4 w3.over))
 else
  (f1.L[0]?).bind fun x13=>
  (zFe fuel x13 [a2]).bind fun v15=>
  if !(eqI v15.2 0) then
   some ((zMZ.mk 0 0 [] (zMY.mk []) [] []),(zMW.mk n4 true))
  else
   (zB1 fuel v15.1 (zMW.mk n4 w3.over)).bind fun v22=>
   some (v22.1,v22.2)
def zGb(op1:Int):Option Bool:=
 some ((eqI op1 9)||((eqI op1 10)||((eqI op1 11)||(eqI op1 13))))
def zAV(F_normal_occurs_1:zMZ->Int->Option Bool)(s1:List zMZ)(c2:Int):Nat->Nat->Option ((Int) ⊕ (Unit))
 |0,_=>none
 |k8+1,i3=>
  if ltI i3 s1.length then
   (s1[i3]?).bind fun x12=>
   (F_normal_occurs_1 x12 c2).bind fun v14=>
   if v14 then
    some (.inl ((i3:Nat):Int))
   else
    zAV F_normal_occurs_1 s1 c2 k8 (i3+1)
  else
   some (.inr ())
mutual
def zB4:Nat->zMZ->Int->Option Bool
 |0,_,_=>none
 |fuel+1,x1,c2=>
  ((zCk fuel) x1 c2).bind fun v3=>
  some v3
def zAt:Nat->(List zMZ)->Int->Option Int
 |0,_,_=>none
 |fuel+1,s1,c2=>
  (zAV (zB4 fuel) s1 c2 fuel 0).bind fun o=>Sum.elim some (fun o4=>
   some (-1)) o
def zAX:Nat->(List zMZ)->Int->Option Bool
 |0,_,_=>none
 |fuel+1,s1,c2=>
  ((zAt fuel) s1 c2).bind fun v3=>
  some (leI 0 v3)
def zCk:Nat->zMZ->Int->Option Bool
 |0,_,_=>none
 |fuel+1,c1,n2=>
  if eqI c1.Op 1 then
   some (eqI c1.N n2)
  else
   (zGb c1.Op).bind fun v6=>
   if v6 then
    (chk .i64 (n2+1)).bind fun n9=>
    ((zAX fuel) c1.L n9).bind fun v14=>
    some v14
   else
    ((zAX fuel) c1.L n2).bind fun v17=>
    some v17
end
def zGH(fuel:Nat)(c1:zMZ):Option Bool:=
 (if !(eqI c1.Op 11) then
  some true
 else
  (c1.L[0]?).bind fun x7=>
  some (!(eqI x7.Op 12)):Option Bool).bind fun b9=>
 if b9 then
  some false
 else
  (c1.L[0]?).bind fun x12=>
  (x12.L[0]?).bind fun x14=>
  (x12.L[1]?).bind fun x16=>
  (if eqI x16.Op 1 then
   if eqI x16.N 0 then
    (zCk fuel x14 0).bind fun v22=>
    some (!v22)
   else
    some false
  else
   some false:Option Bool).bind fun b26=>
  some b26
def zET(c1:zMZ)(binders2:Int)(c3:Int)(c4:Int)(c5:Bool):Option Bool:=
 (chk .i64 (c1.N-binders2)).bind fun n6=>
 (if eqI c1.Op 1 then
  if leI c3 n6 then
   (chk .i64 (n6+c4)).bind fun n15=>
   some (ltI n15 c3)
  else
   some false
 else
  some false:Option Bool).bind fun b22=>
 if b22 then
  some true
 else
  some c5
def zBU(F_tycon_each_Shift_1:zMZ->Int->Int->Int->Bool->Option Bool)(c1:zMZ)(c3:Int)(c4:Int)(j19:Int):Nat->Bool->Nat->Option Bool
 |0,_,_=>none
 |k35+1,a30,i31=>
  if ltI i31 c1.L.length then
   (c1.L[i31]?).bind fun x39=>
   (F_tycon_each_Shift_1 x39 j19 c3 c4 a30).bind fun v41=>
   zBU F_tycon_each_Shift_1 c1 c3 c4 j19 k35 v41 (i31+1)
  else
   some a30
def zA0:Nat->zMZ->Int->Int->Int->Bool->Option Bool
 |0,_,_,_,_,_=>none
 |fuel+1,c1,binders2,c3,c4,c5=>
  (if (eqI c1.Op 1)||(eqI c1.Op 2) then
   (zET c1 binders2 c3 c4 c5).bind fun v12=>
   some v12
  else
   some c5:Option Bool).bind fun j6=>
  ((zBf c1).bind fun v21=>
  if v21 then
   (chk .i64 (binders2+1)).bind fun n24=>
   some n24
  else
   some binders2:Option Int).bind fun j19=>
  (zBU (zA0 fuel) c1 c3 c4 j19 fuel j6 0).bind fun o32=>
  some o32
def zCG(fuel:Nat)(c1:zMZ)(leaf2:Int)(leaf3:Int):Option (zMZ×Int):=
 (zAe fuel c1 0 leaf2 leaf3 20000).bind fun v4=>
 (if ltI v4.2 0 then
  some true
 else
  (zB2 fuel v4.1).bind fun v9=>
  some (!v9):Option Bool).bind fun b11=>
 if b11 then
  some ((zMZ.mk 0 0 [] (zMY.mk []) [] []),6)
 else
  some (v4.1,0)
def zEr(fuel:Nat)(c1:zMZ)(by2:Int)(from3:Int):Option (zMZ×Int):=
 (zB2 fuel c1).bind fun v4=>
 if !v4 then
  some ((zMZ.mk 0 0 [] (zMY.mk []) [] []),1)
 else if (ltI from3 0)||((ltI by2 (-20000))||(ltI 20000 by2)) then
  some ((zMZ.mk 0 0 [] (zMY.mk []) [] []),2)
 else
  (zA0 fuel c1 0 from3 by2 false).bind fun v23=>
  if v23 then
   some ((zMZ.mk 0 0 [] (zMY.mk []) [] []),2)
  else
   (zFW by2 from3).bind fun v26=>
   (zCG fuel c1 v26.1 v26.2).bind fun v28=>
   some (v28.1,v28.2)
def zAo(F_normal_counter_normalize:zMZ->zMW->Option (zMZ×zMW))(c1:zMZ):Nat->Int->Bool->(List zMZ)->Nat->Option (Int×Bool×(List zMZ))
 |0,_,_,_,_=>none
 |k11+1,steps4,over5,L6,i7=>
  if ltI i7 c1.L.length then
   (c1.L[i7]?).bind fun x15=>
   (F_normal_counter_normalize x15 (zMW.mk steps4 over5)).bind fun v17=>
   (app 104 L6 [v17.1]).bind fun l19=>
   zAo F_normal_counter_normalize c1 k11 v17.2.steps v17.2.over l19 (i7+1)
  else
   some (steps4,over5,L6)
def zAP:Nat->zMZ->zMW->Option (zMZ×zMW)
 |0,_,_=>none
 |fuel+1,c1,w2=>
  if w2.over then
   some ((zMZ.mk 0 0 [] (zMY.mk []) [] []),w2)
  else
   (zAo (zAP fuel) c1 fuel w2.steps w2.over [] 0).bind fun o8=>
   (zB1 fuel (zMZ.mk c1.Op c1.N c1.S c1.Kind c1.Names o8.2.2) (zMW.mk o8.1 o8.2.1)).bind fun v31=>
   if v31.2.over then
    some ((zMZ.mk 0 0 [] (zMY.mk []) [] []),v31.2)
   else
    (if eqI v31.1.Op 12 then
     (v31.1.L[0]?).bind fun x36=>
     some (eqI x36.Op 11)
    else
     some false:Option Bool).bind fun b39=>
    if b39 then
     (v31.1.L[0]?).bind fun x42=>
     (v31.1.L[1]?).bind fun x44=>
     (zCX fuel x42 x44 v31.2).bind fun v46=>
     ((zAP fuel) v46.1 v46.2).bind fun v48=>
     some (v48.1,v48.2)
    else
     (zGH fuel v31.1).bind fun v52=>
     if v52 then
      (v31.1.L[0]?).bind fun x55=>
      (x55.L[0]?).bind fun x57=>
      (zEr fuel x57 (-1) 0).bind fun v59=>
      if !(eqI v59.2 0) then
       some ((zMZ.mk 0 0 [] (zMY.mk []) [] []),(zMW.mk v31.2.steps true))
      else
       some (v59.1,v31.2)
     else
      some (v31.1,v31.2)
def zGX(fuel:Nat)(c1:zMZ):Option (zMZ×Bool):=
 (zAP fuel c1 (zMW.mk 0 false)).bind fun v2=>
 some (v2.1,!v2.2.over)
def zBY(F_normal_copiedKind:zMY->Option (zMY))(k1:zMY):Nat->(List zMY)->Nat->Option ((List zMY))
 |0,_,_=>none
 |k7+1,L2,i3=>
  if ltI i3 k1.L.length then
   (k1.L[i3]?).bind fun x11=>
   (F_normal_copiedKind x11).bind fun v13=>
   (app 24 L2 [v13]).bind fun l15=>
   zBY F_normal_copiedKind k1 k7 l15 (i3+1)
  else
   some L2
def zBE:Nat->zMY->Option (zMY)
 |0,_=>none
 |fuel+1,k1=>
  (zBY (zBE fuel) k1 fuel [] 0).bind fun o4=>
  some (zMY.mk o4)
def zCE(F_normal_copied:zMZ->Option (zMZ))(c1:zMZ):Nat->(List zMZ)->Nat->Option ((List zMZ))
 |0,_,_=>none
 |k11+1,L6,i7=>
  if ltI i7 c1.L.length then
   (c1.L[i7]?).bind fun x15=>
   (F_normal_copied x15).bind fun v17=>
   (app 104 L6 [v17]).bind fun l19=>
   zCE F_normal_copied c1 k11 l19 (i7+1)
  else
   some L6
def zBr:Nat->zMZ->Option (zMZ)
 |0,_=>none
 |fuel+1,c1=>
  (zBE fuel c1.Kind).bind fun v2=>
  (zA7 c1.Names).bind fun v4=>
  (zCE (zBr fuel) c1 fuel [] 0).bind fun o8=>
  some (zMZ.mk c1.Op c1.N c1.S v2 v4 o8)
def zEW(fuel:Nat)(c1:zMZ):Option (zMZ×Int):=
 (zB2 fuel c1).bind fun v2=>
 if !v2 then
  some ((zMZ.mk 0 0 [] (zMY.mk []) [] []),1)
 else
  (zGX fuel c1).bind fun v7=>
  if !v7.2 then
   some ((zMZ.mk 0 0 [] (zMY.mk []) [] []),27)
  else
   (zBr fuel v7.1).bind fun v12=>
   some (v12,0)
def zGC(fuel:Nat)(c1:zMZ)(a2:Int):Option (zMZ×Int):=
 (zEW fuel c1).bind fun v3=>
 some (v3.1,v3.2)
def zAg(slices1:(List (List zMY))):Nat->(List zMY)->Nat->Option ((List zMY))
 |0,_,_=>none
 |k35+1,newslice30,i31=>
  if ltI i31 slices1.length then
   (slices1[i31]?).bind fun x39=>
   (app 24 newslice30 x39).bind fun l41=>
   zAg slices1 k35 l41 (i31+1)
  else
   some newslice30
def zAh(slices1:(List (List zMY))):Nat->Int->Nat->Option Int
 |0,_,_=>none
 |k8+1,size2,i3=>
  if ltI i3 slices1.length then
   (slices1[i3]?).bind fun x12=>
   (chk .i64 (size2+(x12.length:Int))).bind fun n14=>
   if ltI n14 0 then
    none
   else
    zAh slices1 k8 n14 (i3+1)
  else
   some size2
def zBt(fuel:Nat)(slices1:(List (List zMY))):Option ((List zMY)):=
 (zAh slices1 fuel 0 0).bind fun o4=>
 (growC 24 o4).bind fun u26=>
 (zAg slices1 fuel [] 0).bind fun o32=>
 some o32
def zEs(fuel:Nat)(s1:zMa)(part2:Int):Option ((List zMY)):=
 (if eqI s1.Op 4 then
  some (eqI s1.Op 4)
 else
  some ((eqI s1.Op 6)&&(eqI part2 0)):Option Bool).bind fun j3=>
 if j3 then
  some s1.Kinds
 else if eqI s1.Op 6 then
  (zBt fuel [s1.Kinds,s1.More]).bind fun v14=>
  some v14
 else
  some []
def zBV(fuel:Nat)(F_sem_rebuild_tame_1:zMa->Int->Option (zMa×Int))(s1:zMa)(depth2:Int):Nat->(List zMa)->Nat->Option ((zMa×Int) ⊕ ((List zMa)))
 |0,_,_=>none
 |k30+1,L24,i25=>
  if ltI i25 s1.L.length then
   (s1.L[i25]?).bind fun x34=>
   (zEs fuel s1 ((i25:Nat):Int)).bind fun v36=>
   (chk .i64 (depth2+(v36.length:Int))).bind fun n38=>
   (F_sem_rebuild_tame_1 x34 n38).bind fun v43=>
   if !(eqI v43.2 0) then
    some (.inl ((zMa.mk 0 0 [] (zMZ.mk 0 0 [] (zMY.mk []) [] []) (zMY.mk []) [] [] [] []),v43.2))
   else
    (app 256 L24 [v43.1]).bind fun l50=>
    zBV fuel F_sem_rebuild_tame_1 s1 depth2 k30 l50 (i25+1)
  else
   some (.inr L24)
def zA1:Nat->zMa->Int->Option (zMa×Int)
 |0,_,_=>none
 |fuel+1,s1,depth2=>
  (zA5 s1.Kinds).bind fun v3=>
  (zA5 s1.More).bind fun v5=>
  (zA7 s1.Names).bind fun v7=>
  ((zDF s1.Op).bind fun v12=>
  if v12 then
   (zGC fuel s1.Con depth2).bind fun v15=>
   if !(eqI v15.2 0) then
    some (.inl ((zMa.mk 0 0 [] (zMZ.mk 0 0 [] (zMY.mk []) [] []) (zMY.mk []) [] [] [] []),v15.2))
   else
    some (.inr (v15.1.Op,v15.1.N,v15.1.S,v15.1.Kind.L,v15.1.Names,v15.1.L))
  else
   some (.inr (0,0,[],[],[],[])):Option ((zMa×Int) ⊕ (Int×Int×(List UInt8)×(List zMY)×(List (List UInt8))×(List zMZ)))).bind fun o=>Sum.elim some (fun j9=>
   (zBV fuel (zA1 fuel) s1 depth2 fuel [] 0).bind fun o=>Sum.elim some (fun o26=>
    some ((zMa.mk s1.Op s1.N s1.S (zMZ.mk j9.1 j9.2.1 j9.2.2.1 (zMY.mk j9.2.2.2.1) j9.2.2.2.2.1 j9.2.2.2.2.2) s1.Kind v3 v5 v7 o26),0)) o) o
def zEU(fuel:Nat)(s1:zMa):Option (zMa×Int):=
 (zA1 fuel s1 0).bind fun v2=>
 some (v2.1,v2.2)
def zDP(F_kind_equal:zMY->zMY->Option Bool)(a1:zMY)(b2:zMY):Nat->Nat->Option ((Bool) ⊕ (Unit))
 |0,_=>none
 |k13+1,i8=>
  if ltI i8 a1.L.length then
   (a1.L[i8]?).bind fun x17=>
   (b2.L[i8]?).bind fun x19=>
   (F_kind_equal x17 x19).bind fun v21=>
   if !v21 then
    some (.inl false)
   else
    zDP F_kind_equal a1 b2 k13 (i8+1)
  else
   some (.inr ())
def zDQ:Nat->zMY->zMY->Option Bool
 |0,_,_=>none
 |fuel+1,a1,b2=>
  if !(eqI a1.L.length b2.L.length) then
   some false
  else
   (zDP (zDQ fuel) a1 b2 fuel 0).bind fun o=>Sum.elim some (fun o9=>
    some true) o
def zEm(fuel:Nat)(a1:zMY)(b2:zMY):Option Bool:=
 ((zBy fuel a1).bind fun v3=>
 if v3 then
  (zBy fuel b2).bind fun v6=>
  if v6 then
   (zDQ fuel a1 b2).bind fun v9=>
   some v9
  else
   some false
 else
  some false:Option Bool).bind fun b11=>
 some b11
def zAa(fuel:Nat)(s11:List zMY)(s22:List zMY):Nat->Nat->Option ((Bool) ⊕ (Unit))
 |0,_=>none
 |k13+1,i8=>
  if ltI i8 s11.length then
   (s11[i8]?).bind fun x17=>
   (s22[i8]?).bind fun x19=>
   (zEm fuel x17 x19).bind fun v21=>
   if !v21 then
    some (.inl false)
   else
    zAa fuel s11 s22 k13 (i8+1)
  else
   some (.inr ())
def zAn(fuel:Nat)(s11:List zMY)(s22:List zMY):Option Bool:=
 if !(eqI s11.length s22.length) then
  some false
 else
  (zAa fuel s11 s22 fuel 0).bind fun o=>Sum.elim some (fun o9=>
   some true) o
def zAf(F_sem_same:zMa->zMa->Option Bool)(s11:List zMa)(s22:List zMa):Nat->Nat->Option ((Bool) ⊕ (Unit))
 |0,_=>none
 |k13+1,i8=>
  if ltI i8 s11.length then
   (s11[i8]?).bind fun x17=>
   (s22[i8]?).bind fun x19=>
   (F_sem_same x17 x19).bind fun v21=>
   if !v21 then
    some (.inl false)
   else
    zAf F_sem_same s11 s22 k13 (i8+1)
  else
   some (.inr ())
mutual
def zBI:Nat->(List zMa)->(List zMa)->Option Bool
 |0,_,_=>none
 |fuel+1,s11,s22=>
  if !(eqI s11.length s22.length) then
   some false
  else
   (zAf (zD8 fuel) s11 s22 fuel 0).bind fun o=>Sum.elim some (fun o9=>
    some true) o
def zD8:Nat->zMa->zMa->Option Bool
 |0,_,_=>none
 |fuel+1,a1,b2=>
  (if !(eqI a1.Op b2.Op) then
   some true
  else if !(eqI a1.N b2.N) then
   some true
  else if !(eqS a1.S b2.S) then
   some true
  else
   (zBq fuel a1.Con b2.Con).bind fun v16=>
   if !v16 then
    some true
   else
    (zEm fuel a1.Kind b2.Kind).bind fun v21=>
    if !v21 then
     some true
    else
     (zB0 fuel a1.Names b2.Names).bind fun v26=>
     some (!v26):Option Bool).bind fun b28=>
  if b28 then
   some false
  else
   ((zAn fuel a1.Kinds b2.Kinds).bind fun v31=>
   if v31 then
    (zAn fuel a1.More b2.More).bind fun v34=>
    if v34 then
     ((zBI fuel) a1.L b2.L).bind fun v37=>
     some v37
    else
     some false
   else
    some false:Option Bool).bind fun b39=>
   some b39
end
def zH9(fuel:Nat)(a1:zMa)(b2:zMa):Option (Bool×Int):=
 ((zBn fuel a1).bind fun v3=>
 if !v3 then
  some true
 else
  (zBn fuel b2).bind fun v8=>
  some (!v8):Option Bool).bind fun b10=>
 if b10 then
  some (false,1)
 else
  (zEU fuel a1).bind fun v13=>
  (zEU fuel b2).bind fun v15=>
  if (!(eqI v13.2 0))||(!(eqI v15.2 0)) then
   some (false,27)
  else
   (zD8 fuel v13.1 v15.1).bind fun v29=>
   some (v29,0)
def zBv(F_ref08_count:zMY->Int->Int->Option Int)(k1:zMY)(depth3:Int):Nat->Int->Nat->Option Int
 |0,_,_=>none
 |k32+1,left27,i28=>
  if (ltI i28 k1.L.length)&&(leI 0 left27) then
   (k1.L[i28]?).bind fun x44=>
   (chk .i64 (depth3-1)).bind fun n46=>
   (F_ref08_count x44 left27 n46).bind fun v51=>
   zBv F_ref08_count k1 depth3 k32 v51 (i28+1)
  else
   some left27
def zDf:Nat->zMY->Int->Int->Option Int
 |0,_,_,_=>none
 |fuel+1,k1,left2,depth3=>
  if (ltI left2 1)||((ltI depth3 1)||((!(eqI k1.L.length 0))&&(!(eqI k1.L.length 2)))) then
   some (-1)
  else
   (chk .i64 (left2-1)).bind fun n22=>
   (zBv (zDf fuel) k1 depth3 fuel n22 0).bind fun o29=>
   some o29
def zCg(fuel:Nat)(k1:zMY):Option Bool:=
 (zDf fuel k1 20000 400).bind fun v2=>
 some (leI 0 v2)
def zDl(fuel:Nat)(l1:List zMY):Nat->Nat->Option ((Bool) ⊕ (Unit))
 |0,_=>none
 |k7+1,i2=>
  if ltI i2 l1.length then
   (l1[i2]?).bind fun x11=>
   (zCg fuel x11).bind fun v13=>
   if !v13 then
    some (.inl false)
   else
    zDl fuel l1 k7 (i2+1)
  else
   some (.inr ())
def zF1(fuel:Nat)(l1:List zMY):Option Bool:=
 (zDl fuel l1 fuel 0).bind fun o=>Sum.elim some (fun o3=>
  some true) o
def zE1(op1:Int):Option Bool:=
 some ((eqI op1 1)||((eqI op1 2)||(eqI op1 3)))
def zHv(c1:zMZ):Option Bool:=
 some ((eqI c1.Op 0)&&((eqI c1.N 0)&&((eqS c1.S [])&&((eqI c1.Kind.L.length 0)&&((eqI c1.Names.length 0)&&(eqI c1.L.length 0))))))
def zCw(F_ref09_count:zMZ->Int->Int->Option Int)(c1:zMZ)(left2:Int)(depth3:Int):Nat->Int->Nat->Option Int
 |0,_,_=>none
 |k12+1,n7,i8=>
  if (ltI i8 c1.L.length)&&(ltI n7 left2) then
   (c1.L[i8]?).bind fun x24=>
   (chk .i64 (left2-n7)).bind fun n26=>
   (chk .i64 (depth3+1)).bind fun n31=>
   (F_ref09_count x24 n26 n31).bind fun v36=>
   (chk .i64 (n7+v36)).bind fun n38=>
   zCw F_ref09_count c1 left2 depth3 k12 n38 (i8+1)
  else
   some n7
def zCf:Nat->zMZ->Int->Int->Option Int
 |0,_,_,_=>none
 |fuel+1,c1,left2,depth3=>
  if ltI 400 depth3 then
   some left2
  else
   (zCw (zCf fuel) c1 left2 depth3 fuel 1 0).bind fun o9=>
   some o9
def zGW(fuel:Nat)(c1:zMZ):Option Bool:=
 (zCf fuel c1 20001 1).bind fun v2=>
 some (leI v2 20000)
def zE2(op1:Int):Option Bool:=
 some ((eqI op1 9)||((eqI op1 10)||((eqI op1 11)||(eqI op1 13))))
def zFi(op1:Int):Option Int:=
 if (eqI op1 6)||(eqI op1 12) then
  some 2
 else if (eqI op1 7)||(eqI op1 8) then
  some (-1)
 else
  (zE2 op1).bind fun v18=>
  if v18 then
   some 1
  else
   some 0
def zD9(c1:UInt8):Option Bool:=
 some ((leI 97 c1.toNat)&&(leI c1.toNat 122))
def zDO(c1:UInt8):Option Bool:=
 some ((leI 65 c1.toNat)&&(leI c1.toNat 90))
def zEA(c1:UInt8):Option Bool:=
 some ((leI 48 c1.toNat)&&(leI c1.toNat 57))
def zDg(c1:UInt8):Option Bool:=
 ((zD9 c1).bind fun v2=>
 if v2 then
  some true
 else
  (zDO c1).bind fun v5=>
  if v5 then
   some true
  else
   (zEA c1).bind fun v8=>
   if v8 then
    some true
   else
    some (eqI c1.toNat 95):Option Bool).bind fun b11=>
 some b11
def zCp(s1:List UInt8):Nat->Nat->Option ((Bool) ⊕ (Unit))
 |0,_=>none
 |k7+1,i2=>
  if ltI i2 s1.length then
   ((s1[i2]?).bind fun c11=>
   (zDg c11).bind fun v13=>
   if !v13 then
    some (!(eqI c11.toNat 46))
   else
    some false:Option Bool).bind fun b18=>
   if b18 then
    some (.inl false)
   else
    zCp s1 k7 (i2+1)
  else
   some (.inr ())
def zCh(fuel:Nat)(s1:List UInt8):Option Bool:=
 (zCp s1 fuel 0).bind fun o=>Sum.elim some (fun o3=>
  some ((leI 1 s1.length)&&(leI s1.length 48))) o
def zBN(l1:(List (List UInt8))):Nat->Nat->Option ((Bool) ⊕ (Unit))
 |0,_=>none
 |k7+1,i2=>
  if ltI i2 l1.length then
   (idx l1 (((i2:Nat):Int)-1)).bind fun x12=>
   (l1[i2]?).bind fun x16=>
   if !(ltS x12 x16) then
    some (.inl false)
   else
    zBN l1 k7 (i2+1)
  else
   some (.inr ())
def zC3(fuel:Nat)(l1:(List (List UInt8))):Option Bool:=
 (zBN l1 fuel 1).bind fun o=>Sum.elim some (fun o3=>
  some true) o
def zC2(fuel:Nat)(l1:(List (List UInt8))):Nat->Nat->Option ((Bool) ⊕ (Unit))
 |0,_=>none
 |k7+1,i2=>
  if ltI i2 l1.length then
   (l1[i2]?).bind fun x11=>
   (zCh fuel x11).bind fun v13=>
   if !v13 then
    some (.inl false)
   else
    zC2 fuel l1 k7 (i2+1)
  else
   some (.inr ())
def zEJ(fuel:Nat)(l1:(List (List UInt8))):Option Bool:=
 (zC2 fuel l1 fuel 0).bind fun o=>Sum.elim some (fun o3=>
  (if leI l1.length 1000 then
   (zC3 fuel l1).bind fun v26=>
   some v26
  else
   some false:Option Bool).bind fun b30=>
  some b30) o
def zCS(s1:List UInt8):Nat->Int->Nat->Option ((Int×Int) ⊕ (Int))
 |0,_,_=>none
 |k21+1,n15,i16=>
  if ltI i16 s1.length then
   (s1[i16]?).bind fun c25=>
   (zEA c25).bind fun v27=>
   if !v27 then
    some (.inl (0,3))
   else
    (chk .i64 (10*n15)).bind fun n32=>
    (chk .u8 ((c25.toNat:Int)-48)).bind fun n37=>
    (chk .i64 (n32+n37)).bind fun n43=>
    zCS s1 k21 (minI 4503599627370497 n43) (i16+1)
  else
   some (.inr n15)
def zEM(fuel:Nat)(s1:List UInt8):Option (Int×Int):=
 (if eqI s1.length 0 then
  some true
 else if ltI 1 s1.length then
  (s1[0]?).bind fun c8=>
  some (eqI c8.toNat 48)
 else
  some false:Option Bool).bind fun b12=>
 if b12 then
  some (0,3)
 else
  (zCS s1 fuel 0 0).bind fun o=>Sum.elim some (fun o17=>
   if ltI 4503599627370496 o17 then
    some (0,6)
   else
    some (o17,0)) o
def zCO(s1:List UInt8):Nat->Nat->Option ((Bool) ⊕ (Unit))
 |0,_=>none
 |k7+1,i2=>
  if ltI i2 s1.length then
   (s1[i2]?).bind fun c11=>
   (zDg c11).bind fun v13=>
   if !v13 then
    some (.inl false)
   else
    zCO s1 k7 (i2+1)
  else
   some (.inr ())
def zFk(fuel:Nat)(s1:List UInt8):Option Bool:=
 (zCO s1 fuel 0).bind fun o=>Sum.elim some (fun o3=>
  some true) o
def zFR(fuel:Nat)(s1:List UInt8):Option Bool:=
 (if leI 1 s1.length then
  if leI s1.length 24 then
   (zFk fuel s1).bind fun v7=>
   some v7
  else
   some false
 else
  some false:Option Bool).bind fun b12=>
 some b12
def zCH(fuel:Nat)(s1:List UInt8):Option Bool:=
 ((zFR fuel s1).bind fun v2=>
 if v2 then
  (s1[0]?).bind fun c5=>
  (zDO c5).bind fun v7=>
  some v7
 else
  some false:Option Bool).bind fun b9=>
 some b9
def zCD(fuel:Nat)(s1:List UInt8):Nat->Nat->Option ((Bool) ⊕ (Unit))
 |0,_=>none
 |k12+1,i7=>
  if ltI i7 s1.length then
   (s1[i7]?).bind fun c15=>
   if eqI c15.toNat 46 then
    (subC s1 ((i7+1:Nat):Int) (s1.length:Int)).bind fun s20=>
    (zEM fuel s20).bind fun v24=>
    ((subC s1 0 ((i7:Nat):Int)).bind fun s26=>
    (zCH fuel s26).bind fun v30=>
    if v30 then
     some (eqI v24.2 0)
    else
     some false:Option Bool).bind fun b33=>
    some (.inl b33)
   else
    zCD fuel s1 k12 (i7+1)
  else
   some (.inr ())
def zDo(fuel:Nat)(s1:List UInt8):Option Bool:=
 if ltI 48 s1.length then
  some false
 else
  (zCD fuel s1 fuel 0).bind fun o=>Sum.elim some (fun o8=>
   some false) o
def zGE(fuel:Nat)(c1:zMZ):Option Bool:=
 if (ltI c1.Op 1)||(ltI 13 c1.Op) then
  some false
 else
  (zFi c1.Op).bind fun v10=>
  (if leI 0 v10 then
   if !(eqI c1.L.length v10) then
    some true
   else if !(eqI c1.Names.length 0) then
    some true
   else if ltI v10 0 then
    if !(eqI c1.L.length c1.Names.length) then
     some true
    else
     (zEJ fuel c1.Names).bind fun v31=>
     some (!v31)
   else
    some false
  else if ltI v10 0 then
   if !(eqI c1.L.length c1.Names.length) then
    some true
   else
    (zEJ fuel c1.Names).bind fun v42=>
    some (!v42)
  else
   some false:Option Bool).bind fun b45=>
  if b45 then
   some false
  else
   (if (eqI c1.Op 1)||(eqI c1.Op 3) then
    if (ltI c1.N 0)||(ltI 20000 c1.N) then
     some (.inl false)
    else
     some (.inr ())
   else if !(eqI c1.N 0) then
    some (.inl false)
   else
    some (.inr ()):Option (Bool ⊕ Unit)).bind fun o=>Sum.elim some (fun j48=>
    (if eqI c1.Op 2 then
     (zDo fuel c1.S).bind fun v74=>
     if !v74 then
      some true
     else
      some false
    else
     some (!(eqS c1.S [])):Option Bool).bind fun b80=>
    if b80 then
     some false
    else
     (if eqI c1.Op 2 then
      some true
     else
      (zE2 c1.Op).bind fun v86=>
      some v86:Option Bool).bind fun b88=>
     if b88 then
      (zCg fuel c1.Kind).bind fun v91=>
      some v91
     else
      some (eqI c1.Kind.L.length 0)) o
def zEK(F_ref09_all:zMZ->Option Bool)(c1:zMZ):Nat->Nat->Option ((Bool) ⊕ (Unit))
 |0,_=>none
 |k12+1,i7=>
  if ltI i7 c1.L.length then
   (c1.L[i7]?).bind fun x16=>
   (F_ref09_all x16).bind fun v18=>
   if !v18 then
    some (.inl false)
   else
    zEK F_ref09_all c1 k12 (i7+1)
  else
   some (.inr ())
def zEL:Nat->zMZ->Option Bool
 |0,_=>none
 |fuel+1,c1=>
  (zGE fuel c1).bind fun v2=>
  if !v2 then
   some false
  else
   (zEK (zEL fuel) c1 fuel 0).bind fun o=>Sum.elim some (fun o8=>
    some true) o
def zFj(fuel:Nat)(c1:zMZ):Option Bool:=
 ((zGW fuel c1).bind fun v2=>
 if v2 then
  (zEL fuel c1).bind fun v5=>
  some v5
 else
  some false:Option Bool).bind fun b7=>
 some b7
def zEt(fuel:Nat)(l1:List zMY):Option Bool:=
 (if leI l1.length 1000 then
  (zF1 fuel l1).bind fun v5=>
  some v5
 else
  some false:Option Bool).bind fun b9=>
 some b9
def zEI(s1:zMa):Option Bool:=
 some ((eqI s1.Op 5)||(eqI s1.Op 6))
def zHw:Option ((List (List UInt8))):=
 (some [([]:List UInt8),[118,97,108,46],[116,121,112,101,46],[99,111,110,46],[109,111,100,46],[115,105,103,46]]).bind fun l1=>
 some l1
def zGF:Option ((List (List UInt8))):=
 (some [[97,110,100,97,108,115,111],[99,97,115,101],[100,97,116,97],[100,105,118],[101,108,115,101],[101,110,100],[102,110],[102,117,110],[102,117,110,99,116,111,114],[103,101,110,101,114,97,116,105,118,101],[105,102],[105,109,112,111,114,116],[105,110],[105,110,99,108,117,100,101],[108,101,116],[109,111,100],[109,111,100,117,108,101],[111,102],[111,112,101,110],[111,114,101,108,115,101],[112,97,99,107],[115,104,97,114,105,110,103],[115,105,103],[115,105,103,110,97,116,117,114,101],[115,116,114,117,99,116],[115,116,114,117,99,116,117,114,101],[116,104,101,110],[116,121,112,101],[117,110,112,97,99,107],[118,97,108],[119,105,116,104]]).bind fun l1=>
 some l1
def zCi(l1:(List (List UInt8)))(s2:List UInt8):Nat->Nat->Option ((Int) ⊕ (Unit))
 |0,_=>none
 |k8+1,i3=>
  if ltI i3 l1.length then
   (l1[i3]?).bind fun x12=>
   if eqS x12 s2 then
    some (.inl ((i3:Nat):Int))
   else
    zCi l1 s2 k8 (i3+1)
  else
   some (.inr ())
def zHJ(fuel:Nat)(l1:(List (List UInt8)))(s2:List UInt8):Option Int:=
 (zCi l1 s2 fuel 0).bind fun o=>Sum.elim some (fun o4=>
  some (-1)) o
def zEV(fuel:Nat)(s1:List UInt8):Option Bool:=
 ((zFR fuel s1).bind fun v2=>
 if v2 then
  (s1[0]?).bind fun c5=>
  (zD9 c5).bind fun v7=>
  if v7 then
   (zGF).bind fun v10=>
   (zHJ fuel v10 s1).bind fun v12=>
   some (ltI v12 0)
  else
   some false
 else
  some false:Option Bool).bind fun b14=>
 some b14
def zGG(fuel:Nat)(kind1:Int)(zKy:List UInt8):Option Bool:=
 if (eqI kind1 1)||(eqI kind1 2) then
  (zEV fuel zKy).bind fun v7=>
  some v7
 else
  (zCH fuel zKy).bind fun v14=>
  some v14
def zBw(fuel:Nat)(s1:List UInt8)(v2:(List (List UInt8))):Nat->Nat->Option ((Int×(List UInt8)) ⊕ (Unit))
 |0,_=>none
 |k9+1,k4=>
  if ltI k4 v2.length then
   (v2[k4]?).bind fun x13=>
   (if ltI x13.length s1.length then
    (subC s1 0 (x13.length:Int)).bind fun s19=>
    if eqS s19 x13 then
     (subC s1 (x13.length:Int) (s1.length:Int)).bind fun s24=>
     (zGG fuel ((k4:Nat):Int) s24).bind fun v28=>
     some v28
    else
     some false
   else
    some false:Option Bool).bind fun b33=>
   if b33 then
    (subC s1 (x13.length:Int) (s1.length:Int)).bind fun s36=>
    some (.inl (((k4:Nat):Int),s36))
   else
    zBw fuel s1 v2 k9 (k4+1)
  else
   some (.inr ())
def zFl(fuel:Nat)(s1:List UInt8):Option (Int×(List UInt8)):=
 (zHw).bind fun v2=>
 (zBw fuel s1 v2 fuel 1).bind fun o=>Sum.elim some (fun o5=>
  some (0,[])) o
def zFQ(fuel:Nat)(label1:List UInt8)(s2:zMa):Option Bool:=
 (zFl fuel label1).bind fun v3=>
 if eqI v3.1 1 then
  some (eqI s2.Op 1)
 else if eqI v3.1 2 then
  some (eqI s2.Op 2)
 else if eqI v3.1 3 then
  some ((eqI s2.Op 3)&&(eqS s2.S v3.2))
 else if eqI v3.1 4 then
  (zEI s2).bind fun v19=>
  some v19
 else if eqI v3.1 5 then
  some (eqI s2.Op 4)
 else
  some false
def zDG(fuel:Nat)(s1:zMa):Nat->Nat->Option ((Bool) ⊕ (Unit))
 |0,_=>none
 |k181+1,i176=>
  if ltI i176 s1.L.length then
   ((s1.Names[i176]?).bind fun x185=>
   (zCh fuel x185).bind fun v187=>
   if !v187 then
    some true
   else
    (s1.L[i176]?).bind fun x192=>
    (zFQ fuel x185 x192).bind fun v194=>
    some (!v194):Option Bool).bind fun b196=>
   if b196 then
    some (.inl false)
   else
    zDG fuel s1 k181 (i176+1)
  else
   some (.inr ())
def zGD(fuel:Nat)(s1:zMa):Option Bool:=
 if (ltI s1.Op 1)||(ltI 6 s1.Op) then
  some false
 else
  ((zE1 s1.Op).bind fun v10=>
  (zHv s1.Con).bind fun v12=>
  if !(eqB v10 (!v12)) then
   some true
  else
   (zE1 s1.Op).bind fun v17=>
   if v17 then
    (zFj fuel s1.Con).bind fun v20=>
    some (!v20)
   else
    some false:Option Bool).bind fun b22=>
  if b22 then
   some false
  else
   (if eqI s1.Op 2 then
    (zCg fuel s1.Kind).bind fun v27=>
    if !v27 then
     some true
    else
     some false
   else
    some (ltI 0 s1.Kind.L.length):Option Bool).bind fun b33=>
   if b33 then
    some false
   else
    (if eqI s1.Op 3 then
     (zCH fuel s1.S).bind fun v38=>
     if !v38 then
      some true
     else
      some false
    else
     some (!(eqS s1.S [])):Option Bool).bind fun b44=>
    if b44 then
     some false
    else
     ((zEt fuel s1.Kinds).bind fun v47=>
     if !v47 then
      some true
     else
      (zEt fuel s1.More).bind fun v52=>
      if !v52 then
       some true
      else if ltI 0 s1.Kinds.length then
       if !(eqI s1.Op 4) then
        if !(eqI s1.Op 6) then
         some true
        else if ltI 0 s1.More.length then
         some (eqI s1.N 1)
        else
         some false
       else if ltI 0 s1.More.length then
        if !(eqI s1.Op 6) then
         some true
        else
         some (eqI s1.N 1)
       else
        some false
      else if ltI 0 s1.More.length then
       if !(eqI s1.Op 6) then
        some true
       else
        some (eqI s1.N 1)
      else
       some false:Option Bool).bind fun b97=>
     if b97 then
      some false
     else if if !(eqI s1.N 0) then (!(eqI s1.Op 6))||((!(eqI s1.N 1))||((ltI 0 s1.Names.length)&&(!(eqI s1.Op 5)))) else (ltI 0 s1.Names.length)&&(!(eqI s1.Op 5)) then
      some false
     else if eqI s1.Op 4 then
      (if eqI s1.L.length 1 then
       (s1.L[0]?).bind fun x130=>
       (zEI x130).bind fun v132=>
       some v132
      else
       some false:Option Bool).bind fun b135=>
      some b135
     else if eqI s1.Op 6 then
      (if eqI s1.L.length 2 then
       (s1.L[0]?).bind fun x143=>
       (zEI x143).bind fun v145=>
       if v145 then
        (s1.L[1]?).bind fun x148=>
        (zEI x148).bind fun v150=>
        some v150
       else
        some false
      else
       some false:Option Bool).bind fun b153=>
      some b153
     else if eqI s1.Op 5 then
      (if ltI 1000 s1.Names.length then
       some true
      else if !(eqI s1.L.length s1.Names.length) then
       some true
      else
       (zC3 fuel s1.Names).bind fun v171=>
       some (!v171):Option Bool).bind fun b173=>
      if b173 then
       some false
      else
       (zDG fuel s1 fuel 0).bind fun o=>Sum.elim some (fun o177=>
        some true) o
     else
      some (eqI s1.L.length 0)
def zDJ(F_ref09_Size:zMZ->Option Int)(c1:zMZ):Nat->Int->Nat->Option Int
 |0,_,_=>none
 |k7+1,n2,i3=>
  if ltI i3 c1.L.length then
   (c1.L[i3]?).bind fun x11=>
   (F_ref09_Size x11).bind fun v13=>
   (chk .i64 (n2+v13)).bind fun n15=>
   zDJ F_ref09_Size c1 k7 n15 (i3+1)
  else
   some n2
def zDK:Nat->zMZ->Option Int
 |0,_=>none
 |fuel+1,c1=>
  (zDJ (zDK fuel) c1 fuel 1 0).bind fun o4=>
  some o4
def zCv(F_ref24_count:zMa->Int->Int->Option Int)(s1:zMa)(depth3:Int):Nat->Int->Nat->Option Int
 |0,_,_=>none
 |k39+1,left34,i35=>
  if (ltI i35 s1.L.length)&&(leI 0 left34) then
   (s1.L[i35]?).bind fun x51=>
   (chk .i64 (depth3-1)).bind fun n53=>
   (F_ref24_count x51 left34 n53).bind fun v58=>
   zCv F_ref24_count s1 depth3 k39 v58 (i35+1)
  else
   some left34
def zCe:Nat->zMa->Int->Int->Option Int
 |0,_,_,_=>none
 |fuel+1,s1,left2,depth3=>
  (if ltI left2 1 then
   some true
  else if ltI depth3 1 then
   some true
  else
   (zGD fuel s1).bind fun v10=>
   some (!v10):Option Bool).bind fun b12=>
  if b12 then
   some (-1)
  else
   (chk .i64 (left2-1)).bind fun n15=>
   ((zE1 s1.Op).bind fun v22=>
   if v22 then
    (zDK fuel s1.Con).bind fun v25=>
    (chk .i64 (n15-v25)).bind fun n27=>
    some n27
   else
    some n15:Option Int).bind fun j20=>
   (zCv (zCe fuel) s1 depth3 fuel j20 0).bind fun o36=>
   some o36
def zFx(fuel:Nat)(s1:zMa):Option Bool:=
 (zCe fuel s1 20000 400).bind fun v2=>
 some (leI 0 v2)
def zDB(fuel:Nat)(a1:zMb):Option Bool:=
 (if leI a1.Kinds.length 1000 then
  (zF1 fuel a1.Kinds).bind fun v5=>
  if v5 then
   (zFx fuel a1.S).bind fun v8=>
   some v8
  else
   some false
 else
  some false:Option Bool).bind fun b12=>
 some b12
def zEC(fuel:Nat)(k1:zMY):Option Bool:=
 (zBy fuel k1).bind fun v2=>
 some (!v2)
def zAR(fuel:Nat)(s1:List zMY):Nat->Nat->Option ((Int) ⊕ (Unit))
 |0,_=>none
 |k7+1,i2=>
  if ltI i2 s1.length then
   (s1[i2]?).bind fun x11=>
   (zEC fuel x11).bind fun v13=>
   if v13 then
    some (.inl ((i2:Nat):Int))
   else
    zAR fuel s1 k7 (i2+1)
  else
   some (.inr ())
def zBK(fuel:Nat)(s1:List zMY):Option Int:=
 (zAR fuel s1 fuel 0).bind fun o=>Sum.elim some (fun o3=>
  some (-1)) o
def zA3(fuel:Nat)(s1:List zMY):Option Bool:=
 (zBK fuel s1).bind fun v2=>
 some (leI 0 v2)
def zHu(fuel:Nat)(s1:zMa):Option Int:=
 (zCN fuel s1 20000 1).bind fun v2=>
 if !v2.2 then
  some 0
 else
  some v2.1
def zE5(fuel:Nat)(a1:zMb):Option Bool:=
 (if leI a1.Kinds.length 1000 then
  (zA3 fuel a1.Kinds).bind fun v5=>
  if !v5 then
   (zHu fuel a1.S).bind fun v9=>
   some (ltI 0 v9)
  else
   some false
 else
  some false:Option Bool).bind fun b14=>
 some b14
def zFP(fuel:Nat)(s1:zMa)(e2:Int):Option (zMa×Int):=
 (if !(eqI e2 0) then
  some true
 else
  (zBn fuel s1).bind fun v8=>
  some (!v8):Option Bool).bind fun b10=>
 if b10 then
  some ((zMa.mk 0 0 [] (zMZ.mk 0 0 [] (zMY.mk []) [] []) (zMY.mk []) [] [] [] []),6)
 else
  some (s1,0)
def zHI(fuel:Nat)(s1:zMa):Option (zMa×Int):=
 (zBn fuel s1).bind fun v2=>
 if !v2 then
  some ((zMa.mk 0 0 [] (zMZ.mk 0 0 [] (zMY.mk []) [] []) (zMY.mk []) [] [] [] []),1)
 else
  (zEU fuel s1).bind fun v7=>
  if !(eqI v7.2 0) then
   some ((zMa.mk 0 0 [] (zMZ.mk 0 0 [] (zMY.mk []) [] []) (zMY.mk []) [] [] [] []),27)
  else
   (zFP fuel v7.1 v7.2).bind fun v14=>
   some (v14.1,v14.2)
def zBT(s1:List Int)(v2:Int):Nat->Nat->Option ((Int) ⊕ (Unit))
 |0,_=>none
 |k8+1,i3=>
  if ltI i3 s1.length then
   (s1[i3]?).bind fun x12=>
   if eqI v2 x12 then
    some (.inl ((i3:Nat):Int))
   else
    zBT s1 v2 k8 (i3+1)
  else
   some (.inr ())
def zCn(fuel:Nat)(s1:List Int)(v2:Int):Option Int:=
 (zBT s1 v2 fuel 0).bind fun o=>Sum.elim some (fun o4=>
  some (-1)) o
def zCW(fuel:Nat)(s1:List Int)(v2:Int):Option Bool:=
 (zCn fuel s1 v2).bind fun v3=>
 some (leI 0 v3)
def zFp(fuel:Nat)(free1:Int)(c2:Int)(c3:List Int):Option ((List Int)):=
 (chk .i64 (c2-1)).bind fun n4=>
 (chk .i64 (n4-free1)).bind fun n9=>
 (if leI 0 free1 then
  if leI 0 n9 then
   (zCW fuel c3 n9).bind fun v18=>
   some (!v18)
  else
   some false
 else
  some false:Option Bool).bind fun b22=>
 if b22 then
  (app 8 c3 [n9]).bind fun l25=>
  some l25
 else
  some c3
def zBd(F_canon_inCon_Abs_1:zMZ->Int->Int->(List Int)->Option ((List Int)))(c1:zMZ)(c3:Int)(j5:(List Int)×Int):Nat->(List Int)->Nat->Option ((List Int))
 |0,_,_=>none
 |k40+1,a35,i36=>
  if ltI i36 c1.L.length then
   (c1.L[i36]?).bind fun x44=>
   (F_canon_inCon_Abs_1 x44 j5.2 c3 a35).bind fun v46=>
   zBd F_canon_inCon_Abs_1 c1 c3 j5 k40 v46 (i36+1)
  else
   some a35
def zBH:Nat->zMZ->Int->Int->(List Int)->Option ((List Int))
 |0,_,_,_,_=>none
 |fuel+1,c1,depth2,c3,c4=>
  (if eqI c1.Op 1 then
   (chk .i64 (c1.N-depth2)).bind fun n9=>
   (zFp fuel n9 c3 c4).bind fun v14=>
   some (v14,depth2)
  else
   (if eqI c1.Op 9 then
    some (eqI c1.Op 9)
   else if eqI c1.Op 10 then
    some (eqI c1.Op 10)
   else if eqI c1.Op 11 then
    some (eqI c1.Op 11)
   else
    some (eqI c1.Op 13):Option Bool).bind fun j18=>
   if j18 then
    (chk .i64 (depth2+1)).bind fun n30=>
    some (c4,n30)
   else
    some (c4,depth2):Option ((List Int)×Int)).bind fun j5=>
  (zBd (zBH fuel) c1 c3 j5 fuel j5.1 0).bind fun o37=>
  some o37
def zBc(F_canon_inSem_Abs_1:zMa->Int->Int->(List Int)->Option ((List Int)))(s1:zMa)(depth2:Int)(c3:Int):Nat->(List Int)->Nat->Option ((List Int))
 |0,_,_=>none
 |k59+1,a54,i55=>
  if ltI i55 s1.L.length then
   (s1.L[i55]?).bind fun x63=>
   (F_canon_inSem_Abs_1 x63 depth2 c3 a54).bind fun v65=>
   zBc F_canon_inSem_Abs_1 s1 depth2 c3 k59 v65 (i55+1)
  else
   some a54
def zAj:Nat->zMa->Int->Int->(List Int)->Option ((List Int))
 |0,_,_,_,_=>none
 |fuel+1,s1,depth2,c3,c4=>
  (if eqI s1.Op 1 then
   some (eqI s1.Op 1)
  else if eqI s1.Op 2 then
   some (eqI s1.Op 2)
  else
   some (eqI s1.Op 3):Option Bool).bind fun j5=>
  if j5 then
   (zBH fuel s1.Con depth2 c3 c4).bind fun v14=>
   some v14
  else if eqI s1.Op 4 then
   (s1.L[0]?).bind fun x19=>
   (chk .i64 (depth2+(s1.Kinds.length:Int))).bind fun n21=>
   ((zAj fuel) x19 n21 c3 c4).bind fun v26=>
   some v26
  else if eqI s1.Op 6 then
   (s1.L[0]?).bind fun x32=>
   (chk .i64 (depth2+(s1.Kinds.length:Int))).bind fun n34=>
   ((zAj fuel) x32 n34 c3 c4).bind fun v39=>
   (s1.L[1]?).bind fun x41=>
   (chk .i64 (n34+(s1.More.length:Int))).bind fun n44=>
   ((zAj fuel) x41 n44 c3 v39).bind fun v49=>
   some v49
  else
   (zBc (zAj fuel) s1 depth2 c3 fuel c4 0).bind fun o56=>
   some o56
def zFo(fuel:Nat)(free1:Int)(c2:Int)(c3:Int)(c4:List Int):Option Int:=
 if leI c2 free1 then
  (chk .i64 (free1-c2)).bind fun n7=>
  (chk .i64 (n7+c3)).bind fun n12=>
  some n12
 else
  (chk .i64 (c3-1)).bind fun n18=>
  (chk .i64 (c2-1)).bind fun n23=>
  (chk .i64 (n23-free1)).bind fun n28=>
  (zCn fuel c4 n28).bind fun v33=>
  (chk .i64 (n18-v33)).bind fun n35=>
  some n35
def zBC(F_canon_movedCon_Abs_2:zMZ->Int->Int->Int->(List Int)->Option (zMZ))(c1:zMZ)(c3:Int)(c4:Int)(c5:List Int)(j6:Int):Nat->(List zMZ)->Nat->Option ((List zMZ))
 |0,_,_=>none
 |k52+1,L47,i48=>
  if ltI i48 c1.L.length then
   (c1.L[i48]?).bind fun x56=>
   (F_canon_movedCon_Abs_2 x56 j6 c3 c4 c5).bind fun v58=>
   (app 104 L47 [v58]).bind fun l60=>
   zBC F_canon_movedCon_Abs_2 c1 c3 c4 c5 j6 k52 l60 (i48+1)
  else
   some L47
def zAp:Nat->zMZ->Int->Int->Int->(List Int)->Option (zMZ)
 |0,_,_,_,_,_=>none
 |fuel+1,c1,depth2,c3,c4,c5=>
  (if eqI c1.Op 1 then
   (if leI depth2 c1.N then
    (chk .i64 (c1.N-depth2)).bind fun n15=>
    (zFo fuel n15 c3 c4 c5).bind fun v20=>
    (chk .i64 (v20+depth2)).bind fun n22=>
    some n22
   else
    some c1.N:Option Int).bind fun j11=>
   some (.inl (zMZ.mk c1.Op j11 c1.S c1.Kind c1.Names c1.L))
  else
   (if eqI c1.Op 9 then
    some (eqI c1.Op 9)
   else if eqI c1.Op 10 then
    some (eqI c1.Op 10)
   else if eqI c1.Op 11 then
    some (eqI c1.Op 11)
   else
    some (eqI c1.Op 13):Option Bool).bind fun j30=>
   if j30 then
    (chk .i64 (depth2+1)).bind fun n42=>
    some (.inr n42)
   else
    some (.inr depth2):Option (zMZ ⊕ Int)).bind fun o=>Sum.elim some (fun j6=>
   (zBC (zAp fuel) c1 c3 c4 c5 j6 fuel [] 0).bind fun o49=>
   some (zMZ.mk c1.Op c1.N c1.S c1.Kind c1.Names o49)) o
def zBb(F_canon_moved_Abs_2:zMa->Int->Int->Int->(List Int)->Option (zMa))(s1:zMa)(depth2:Int)(c3:Int)(c4:Int)(c5:List Int):Nat->(List zMa)->Nat->Option ((List zMa))
 |0,_,_=>none
 |k62+1,L57,i58=>
  if ltI i58 s1.L.length then
   (s1.L[i58]?).bind fun x66=>
   (F_canon_moved_Abs_2 x66 depth2 c3 c4 c5).bind fun v68=>
   (app 256 L57 [v68]).bind fun l70=>
   zBb F_canon_moved_Abs_2 s1 depth2 c3 c4 c5 k62 l70 (i58+1)
  else
   some L57
def zAi:Nat->zMa->Int->Int->Int->(List Int)->Option (zMa)
 |0,_,_,_,_,_=>none
 |fuel+1,s1,depth2,c3,c4,c5=>
  ((if eqI s1.Op 1 then
   some (eqI s1.Op 1)
  else if eqI s1.Op 2 then
   some (eqI s1.Op 2)
  else
   some (eqI s1.Op 3):Option Bool).bind fun j8=>
  if j8 then
   (zAp fuel s1.Con depth2 c3 c4 c5).bind fun v17=>
   some (v17.Op,v17.N,v17.S,v17.Kind.L,v17.Names,v17.L,[])
  else if eqI s1.Op 4 then
   (s1.L[0]?).bind fun x22=>
   (chk .i64 (depth2+(s1.Kinds.length:Int))).bind fun n24=>
   ((zAi fuel) x22 n24 c3 c4 c5).bind fun v29=>
   some (s1.Con.Op,s1.Con.N,s1.Con.S,s1.Con.Kind.L,s1.Con.Names,s1.Con.L,[v29])
  else if eqI s1.Op 6 then
   (s1.L[0]?).bind fun x35=>
   (chk .i64 (depth2+(s1.Kinds.length:Int))).bind fun n37=>
   ((zAi fuel) x35 n37 c3 c4 c5).bind fun v42=>
   (s1.L[1]?).bind fun x44=>
   (chk .i64 (n37+(s1.More.length:Int))).bind fun n47=>
   ((zAi fuel) x44 n47 c3 c4 c5).bind fun v52=>
   some (s1.Con.Op,s1.Con.N,s1.Con.S,s1.Con.Kind.L,s1.Con.Names,s1.Con.L,[v42,v52])
  else
   (zBb (zAi fuel) s1 depth2 c3 c4 c5 fuel [] 0).bind fun o59=>
   some (s1.Con.Op,s1.Con.N,s1.Con.S,s1.Con.Kind.L,s1.Con.Names,s1.Con.L,o59):Option (Int×Int×(List UInt8)×(List zMY)×(List (List UInt8))×(List zMZ)×(List zMa))).bind fun j6=>
  some (zMa.mk s1.Op s1.N s1.S (zMZ.mk j6.1 j6.2.1 j6.2.2.1 (zMY.mk j6.2.2.2.1) j6.2.2.2.2.1 j6.2.2.2.2.2.1) s1.Kind s1.Kinds s1.More s1.Names j6.2.2.2.2.2.2)
def zFh(fuel:Nat)(c1:zMZ)(depth2:Int)(c3:Int)(c4:Int):Option (zMZ×Int):=
 (chk .i64 (c4+depth2)).bind fun n5=>
 (zEr fuel c1 c3 n5).bind fun v10=>
 some (v10.1,v10.2)
def zBM(fuel:Nat)(F_sem_rebuild_Shift_2:zMa->Int->Int->Int->Option (zMa×Int))(s1:zMa)(depth2:Int)(c3:Int)(c4:Int):Nat->(List zMa)->Nat->Option ((zMa×Int) ⊕ ((List zMa)))
 |0,_,_=>none
 |k32+1,L26,i27=>
  if ltI i27 s1.L.length then
   (s1.L[i27]?).bind fun x36=>
   (zEs fuel s1 ((i27:Nat):Int)).bind fun v38=>
   (chk .i64 (depth2+(v38.length:Int))).bind fun n40=>
   (F_sem_rebuild_Shift_2 x36 n40 c3 c4).bind fun v45=>
   if !(eqI v45.2 0) then
    some (.inl ((zMa.mk 0 0 [] (zMZ.mk 0 0 [] (zMY.mk []) [] []) (zMY.mk []) [] [] [] []),v45.2))
   else
    (app 256 L26 [v45.1]).bind fun l52=>
    zBM fuel F_sem_rebuild_Shift_2 s1 depth2 c3 c4 k32 l52 (i27+1)
  else
   some (.inr L26)
def zAs:Nat->zMa->Int->Int->Int->Option (zMa×Int)
 |0,_,_,_,_=>none
 |fuel+1,s1,depth2,c3,c4=>
  (zA5 s1.Kinds).bind fun v5=>
  (zA5 s1.More).bind fun v7=>
  (zA7 s1.Names).bind fun v9=>
  ((zDF s1.Op).bind fun v14=>
  if v14 then
   (zFh fuel s1.Con depth2 c3 c4).bind fun v17=>
   if !(eqI v17.2 0) then
    some (.inl ((zMa.mk 0 0 [] (zMZ.mk 0 0 [] (zMY.mk []) [] []) (zMY.mk []) [] [] [] []),v17.2))
   else
    some (.inr (v17.1.Op,v17.1.N,v17.1.S,v17.1.Kind.L,v17.1.Names,v17.1.L))
  else
   some (.inr (0,0,[],[],[],[])):Option ((zMa×Int) ⊕ (Int×Int×(List UInt8)×(List zMY)×(List (List UInt8))×(List zMZ)))).bind fun o=>Sum.elim some (fun j11=>
   (zBM fuel (zAs fuel) s1 depth2 c3 c4 fuel [] 0).bind fun o=>Sum.elim some (fun o28=>
    some ((zMa.mk s1.Op s1.N s1.S (zMZ.mk j11.1 j11.2.1 j11.2.2.1 (zMY.mk j11.2.2.2.1) j11.2.2.2.2.1 j11.2.2.2.2.2) s1.Kind v5 v7 v9 o28),0)) o) o
def zGs(fuel:Nat)(s1:zMa)(by2:Int)(from3:Int):Option (zMa×Int):=
 (zBn fuel s1).bind fun v4=>
 if !v4 then
  some ((zMa.mk 0 0 [] (zMZ.mk 0 0 [] (zMY.mk []) [] []) (zMY.mk []) [] [] [] []),1)
 else if (ltI from3 0)||((ltI by2 (-20000))||(ltI 20000 by2)) then
  some ((zMa.mk 0 0 [] (zMZ.mk 0 0 [] (zMY.mk []) [] []) (zMY.mk []) [] [] [] []),2)
 else
  (if ltI by2 0 then
   none
  else
   some ():Option Unit).bind fun v26=>
  (zAs fuel s1 0 by2 (minI from3 20001)).bind fun v28=>
  (zFP fuel v28.1 v28.2).bind fun v30=>
  some (v30.1,v30.2)
def zCT(F_canon_copied:zMY->Option (zMY))(k1:zMY):Nat->(List zMY)->Nat->Option ((List zMY))
 |0,_,_=>none
 |k7+1,L2,i3=>
  if ltI i3 k1.L.length then
   (k1.L[i3]?).bind fun x11=>
   (F_canon_copied x11).bind fun v13=>
   (app 24 L2 [v13]).bind fun l15=>
   zCT F_canon_copied k1 k7 l15 (i3+1)
  else
   some L2
def zBz:Nat->zMY->Option (zMY)
 |0,_=>none
 |fuel+1,k1=>
  (zCT (zBz fuel) k1 fuel [] 0).bind fun o4=>
  some (zMY.mk o4)
def zDm(fuel:Nat)(a1:zMb)(v14:List Int):Nat->(List zMY)->Nat->Option ((List zMY))
 |0,_,_=>none
 |k30+1,Kinds25,i26=>
  if ltI i26 v14.length then
   (v14[i26]?).bind fun x34=>
   (idx a1.Kinds x34).bind fun x36=>
   (zBz fuel x36).bind fun v40=>
   (app 24 Kinds25 [v40]).bind fun l42=>
   zDm fuel a1 v14 k30 l42 (i26+1)
  else
   some Kinds25
def zF2(fuel:Nat)(a1:zMb):Option (zMb×(List Int)×Int):=
 (zE5 fuel a1).bind fun v2=>
 if !v2 then
  some ((zMb.mk [] (zMa.mk 0 0 [] (zMZ.mk 0 0 [] (zMY.mk []) [] []) (zMY.mk []) [] [] [] [])),[],1)
 else
  (zHI fuel a1.S).bind fun v7=>
  if !(eqI v7.2 0) then
   some ((zMb.mk [] (zMa.mk 0 0 [] (zMZ.mk 0 0 [] (zMY.mk []) [] []) (zMY.mk []) [] [] [] [])),[],v7.2)
  else
   (zAj fuel v7.1 0 (a1.Kinds.length:Int) []).bind fun v14=>
   (zAi fuel v7.1 0 (a1.Kinds.length:Int) (v14.length:Int) v14).bind fun v16=>
   (zGs fuel v16 0 0).bind fun v18=>
   if !(eqI v18.2 0) then
    some ((zMb.mk [] (zMa.mk 0 0 [] (zMZ.mk 0 0 [] (zMY.mk []) [] []) (zMY.mk []) [] [] [] [])),[],6)
   else
    (zDm fuel a1 v14 fuel [] 0).bind fun o27=>
    some ((zMb.mk o27 v18.1),v14,0)
def zDN(a1:(List (List UInt8)))(b2:(List (List UInt8))):Nat->Nat->Option ((Bool) ⊕ (Unit))
 |0,_=>none
 |k13+1,i8=>
  if ltI i8 a1.length then
   (a1[i8]?).bind fun x17=>
   (b2[i8]?).bind fun x19=>
   if !(eqS x17 x19) then
    some (.inl false)
   else
    zDN a1 b2 k13 (i8+1)
  else
   some (.inr ())
def zFS(fuel:Nat)(a1:(List (List UInt8)))(b2:(List (List UInt8))):Option Bool:=
 if !(eqI a1.length b2.length) then
  some false
 else
  (zDN a1 b2 fuel 0).bind fun o=>Sum.elim some (fun o9=>
   some true) o
def zDL(F_ref09_Same:zMZ->zMZ->Option Bool)(a1:zMZ)(b2:zMZ):Nat->Nat->Option ((Bool) ⊕ (Unit))
 |0,_=>none
 |k36+1,i31=>
  if ltI i31 a1.L.length then
   (a1.L[i31]?).bind fun x40=>
   (b2.L[i31]?).bind fun x42=>
   (F_ref09_Same x40 x42).bind fun v44=>
   if !v44 then
    some (.inl false)
   else
    zDL F_ref09_Same a1 b2 k36 (i31+1)
  else
   some (.inr ())
def zDM:Nat->zMZ->zMZ->Option Bool
 |0,_,_=>none
 |fuel+1,a1,b2=>
  (if !(eqI a1.Op b2.Op) then
   some true
  else if !(eqI a1.N b2.N) then
   some true
  else if !(eqS a1.S b2.S) then
   some true
  else if !(eqI a1.L.length b2.L.length) then
   some true
  else
   (zBB fuel a1.Kind b2.Kind).bind fun v21=>
   if !v21 then
    some true
   else
    (zFS fuel a1.Names b2.Names).bind fun v26=>
    some (!v26):Option Bool).bind fun b28=>
  if b28 then
   some false
  else
   (zDL (zDM fuel) a1 b2 fuel 0).bind fun o=>Sum.elim some (fun o32=>
    some true) o
def zDH(F_ref24_Same:zMa->zMa->Option Bool)(a1:zMa)(b2:zMa):Nat->Nat->Option ((Bool) ⊕ (Unit))
 |0,_=>none
 |k49+1,i44=>
  if ltI i44 a1.L.length then
   (a1.L[i44]?).bind fun x53=>
   (b2.L[i44]?).bind fun x55=>
   (F_ref24_Same x53 x55).bind fun v57=>
   if !v57 then
    some (.inl false)
   else
    zDH F_ref24_Same a1 b2 k49 (i44+1)
  else
   some (.inr ())
def zDI:Nat->zMa->zMa->Option Bool
 |0,_,_=>none
 |fuel+1,a1,b2=>
  (if !(eqI a1.Op b2.Op) then
   some true
  else if !(eqI a1.N b2.N) then
   some true
  else if !(eqS a1.S b2.S) then
   some true
  else
   (zDM fuel a1.Con b2.Con).bind fun v16=>
   if !v16 then
    some true
   else
    (zBB fuel a1.Kind b2.Kind).bind fun v21=>
    if !v21 then
     some true
    else
     (zB3 fuel a1.Kinds b2.Kinds).bind fun v26=>
     if !v26 then
      some true
     else
      (zB3 fuel a1.More b2.More).bind fun v31=>
      if !v31 then
       some true
      else
       (zFS fuel a1.Names b2.Names).bind fun v36=>
       if !v36 then
        some true
       else
        some (!(eqI a1.L.length b2.L.length)):Option Bool).bind fun b41=>
  if b41 then
   some false
  else
   (zDH (zDI fuel) a1 b2 fuel 0).bind fun o=>Sum.elim some (fun o45=>
    some true) o
def zDv(fuel:Nat)(a1:zMb)(b2:zMb):Option Bool:=
 ((zB3 fuel a1.Kinds b2.Kinds).bind fun v3=>
 if v3 then
  (zDI fuel a1.S b2.S).bind fun v6=>
  some v6
 else
  some false:Option Bool).bind fun b8=>
 some b8
def zBk(s11:List Int)(s22:List Int):Nat->Nat->Option ((Bool) ⊕ (Unit))
 |0,_=>none
 |k13+1,i8=>
  if ltI i8 s11.length then
   (s11[i8]?).bind fun x17=>
   (s22[i8]?).bind fun x19=>
   if !(eqI x17 x19) then
    some (.inl false)
   else
    zBk s11 s22 k13 (i8+1)
  else
   some (.inr ())
def zCo(fuel:Nat)(s11:List Int)(s22:List Int):Option Bool:=
 if !(eqI s11.length s22.length) then
  some false
 else
  (zBk s11 s22 fuel 0).bind fun o=>Sum.elim some (fun o9=>
   some true) o
def zDZ(fuel:Nat)(a1:zMb)(b2:zMb):Option Bool:=
 (zJk).bind fun v3=>
 if !v3 then
  some false
 else
  ((zFm fuel [a1,b2]).bind fun v8=>
  if v8 then
   some true
  else
   (zB3 fuel a1.Kinds b2.Kinds).bind fun v11=>
   some (!v11):Option Bool).bind fun b13=>
  if b13 then
   some true
  else
   (zH9 fuel a1.S b2.S).bind fun v16=>
   (if !(eqI v16.2 0) then
    some true
   else
    (zDB fuel a1).bind fun v23=>
    if !v23 then
     some true
    else
     (zDB fuel b2).bind fun v28=>
     some (!v28):Option Bool).bind fun b30=>
   if b30 then
    (if !v16.1 then
     some true
    else
     (zDB fuel a1).bind fun v36=>
     if !v36 then
      some true
     else
      (zDB fuel b2).bind fun v41=>
      some (!v41):Option Bool).bind fun b43=>
    some b43
   else
    (zF2 fuel a1).bind fun v48=>
    (zF2 fuel b2).bind fun v50=>
    if (eqI v48.2.2 6)||(eqI v50.2.2 6) then
     some true
    else if (!(eqI v48.2.2 0))||(!(eqI v50.2.2 0)) then
     some false
    else if v16.1 then
     ((zDv fuel v48.1 v50.1).bind fun v73=>
     if v73 then
      (zCo fuel v48.2.1 v50.2.1).bind fun v76=>
      some v76
     else
      some false:Option Bool).bind fun b78=>
     some b78
    else
     ((zDv fuel v48.1 v50.1).bind fun v83=>
     if !v83 then
      some true
     else
      (zCo fuel v48.2.1 v50.2.1).bind fun v88=>
      if !v88 then
       some true
      else
       some (ltI v48.2.1.length a1.Kinds.length):Option Bool).bind fun b93=>
     some b93
def zHH(n:Int):Option (List UInt8):=if (Lib.itoa n).length<=1000 then some (Lib.itoa n) else none
def zE9(s:List UInt8)(c:UInt8):Option Int:=some (Lib.indexByte s c)
def zHF(l:List (List UInt8))(s:List UInt8):Option (List UInt8):=if l.length<=140737488355328∧(Lib.join l s).length<=140737488355328 then some (Lib.join l s) else none
def zHG(b:List UInt8):Option (List UInt8):=some b
end Go.Proofs.YtkdhppfdiagglaaGreatDoor
