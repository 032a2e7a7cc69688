/- For every input the law ParsecoreGroups returns true. Part 8 of 22. No condition. -/
import Derived.Test.YtcbjbgiboimgaaaGreatDoorPGg
import Derived.Lib.Bytealg
import Derived.Lib.Join
import Derived.Lib.Fields
import Derived.Lib.Repeat
import Derived.Lib.ItoaNum
import Derived.Lib.AtoiAll
set_option linter.unusedVariables false
set_option linter.unnecessarySimpa false
set_option linter.unusedSimpArgs false
set_option maxRecDepth 100000
set_option maxHeartbeats 4000000
namespace Go.Proofs.YtcbjbgiboimgaaaGreatDoor
open Go Go.Abs
def zEp(s:List UInt8)(c:UInt8):Option Int:=some (Lib.indexByte s c)
def zCf(s1:List UInt8)(c2:UInt8):Option Int:=
 (zEp s1 c2).bind fun v3=>
 some v3
def zBf(s1:List UInt8)(prefix2:List UInt8):Option Bool:=
 (if leI prefix2.length s1.length then
  (subC s1 0 (prefix2.length:Int)).bind fun s7=>
  some (eqS s7 prefix2)
 else
  some false:Option Bool).bind fun b14=>
 some b14
def zBa(s1:List UInt8)(prefix2:List UInt8):Option Bool:=
 (zBf s1 prefix2).bind fun v3=>
 some v3
def zAi(w1:zKn)(at2:Int):Nat->Int->Int->Option ((Int×zKn) ⊕ (Int))
 |0,_,_=>none
 |k36+1,at30,depth31=>
  if leI w1.s.length at30 then
   some (.inl (at2,(zKn.mk w1.s at30)))
  else
   (subC w1.s at30 (w1.s.length:Int)).bind fun s40=>
   (zBa s40 [40,42]).bind fun v44=>
   if v44 then
    (chk .i64 (depth31+1)).bind fun n47=>
    (chk .i64 (at30+2)).bind fun n52=>
    if eqI n47 0 then
     some (.inr n52)
    else
     zAi w1 at2 k36 n52 n47
   else
    (zBa s40 [42,41]).bind fun v61=>
    if v61 then
     (chk .i64 (depth31-1)).bind fun n64=>
     (chk .i64 (at30+2)).bind fun n69=>
     if eqI n64 0 then
      some (.inr n69)
     else
      zAi w1 at2 k36 n69 n64
    else
     (chk .i64 (at30+1)).bind fun n78=>
     if eqI depth31 0 then
      some (.inr n78)
     else
      zAi w1 at2 k36 n78 depth31
def zBT(fuel:Nat)(w1:zKn):Nat->Int->Option ((Int×zKn) ⊕ (Int))
 |0,_=>none
 |k7+1,at2=>
  if ltI at2 w1.s.length then
   (subC w1.s at2 (w1.s.length:Int)).bind fun s11=>
   (s11[0]?).bind fun c15=>
   (zCf [32,9,10] c15).bind fun v17=>
   if leI 0 v17 then
    (chk .i64 (at2+1)).bind fun n21=>
    zBT fuel w1 k7 n21
   else
    (zBa s11 [40,42]).bind fun v27=>
    if v27 then
     (zAi w1 at2 fuel at2 0).bind fun o=>Sum.elim (fun r=>some (.inl r)) (fun o32=>
      zBT fuel w1 k7 o32) o
    else
     some (.inl ((-1),(zKn.mk w1.s at2)))
  else
   some (.inr at2)
def zCV(fuel:Nat)(w1:zKn):Option (Int×zKn):=
 (zBT fuel w1 fuel w1.at_).bind fun o=>Sum.elim some (fun o3=>
  some ((-1),(zKn.mk w1.s o3))) o
def zEB(s t:List UInt8):Option Int:=match t with
 |[c]=>some (Lib.countByte s c:Nat)
 |_=>none
def zAf(s1:List UInt8)(c2:UInt8):Nat->Int->Option ((Int) ⊕ (Unit))
 |0,_=>none
 |k15+1,i8=>
  if leI 0 i8 then
   (idx s1 i8).bind fun c18=>
   if eqI c18.toNat c2.toNat then
    some (.inl i8)
   else
    zAf s1 c2 k15 (i8-1)
  else
   some (.inr ())
def zB8(fuel:Nat)(s1:List UInt8)(c2:UInt8):Option Int:=
 (chk .i64 ((s1.length:Int)-1)).bind fun n3=>
 (zAf s1 c2 fuel n3).bind fun o=>Sum.elim some (fun o9=>
  some (-1)) o
def zCo(fuel:Nat)(s1:List UInt8)(c2:UInt8):Option Int:=
 (zB8 fuel s1 c2).bind fun v3=>
 some v3
def zCz(fuel:Nat)(s1:List UInt8)(at2:Int):Option (zKq):=
 (subC s1 0 at2).bind fun s3=>
 (zEB s3 [10]).bind fun v7=>
 (chk .i64 (1+v7)).bind fun n9=>
 (zCo fuel s3 (10:UInt8)).bind fun v14=>
 (chk .i64 (at2-v14)).bind fun n16=>
 some (zKq.mk n9 n16)
def zDr(c1:UInt8):Option Bool:=
 some ((leI 97 c1.toNat)&&(leI c1.toNat 122))
def zEC(c1:UInt8):Option Bool:=
 some ((leI 65 c1.toNat)&&(leI c1.toNat 90))
def zEQ(c1:UInt8):Option Bool:=
 some ((leI 48 c1.toNat)&&(leI c1.toNat 57))
def zE8(c1:UInt8):Option Bool:=
 ((zDr c1).bind fun v2=>
 if v2 then
  some true
 else
  (zEC c1).bind fun v5=>
  if v5 then
   some true
  else
   (zEQ c1).bind fun v8=>
   if v8 then
    some true
   else
    some (eqI c1.toNat 95):Option Bool).bind fun b11=>
 some b11
def zBg(s1:List UInt8):Nat->Int->Option Int
 |0,_=>none
 |k7+1,n2=>
  (if ltI n2 s1.length then
   (idx s1 n2).bind fun c11=>
   (zE8 c11).bind fun v15=>
   some v15
  else
   some false:Option Bool).bind fun b19=>
  if b19 then
   (chk .i64 (n2+1)).bind fun n22=>
   zBg s1 k7 n22
  else
   some n2
def zCs(fuel:Nat)(s1:List UInt8):Option Int:=
 (zBg s1 fuel 0).bind fun o3=>
 some o3
def zED(s1:List UInt8):Option Bool:=
 if eqS s1 [97,110,100,97,108,115,111] then
  some true
 else if eqS s1 [99,97,115,101] then
  some true
 else if eqS s1 [100,97,116,97] then
  some true
 else if eqS s1 [100,105,118] then
  some true
 else if eqS s1 [101,108,115,101] then
  some true
 else if eqS s1 [101,110,100] then
  some true
 else if eqS s1 [102,110] then
  some true
 else if eqS s1 [102,117,110] then
  some true
 else if eqS s1 [102,117,110,99,116,111,114] then
  some true
 else if eqS s1 [103,101,110,101,114,97,116,105,118,101] then
  some true
 else if eqS s1 [105,102] then
  some true
 else if eqS s1 [105,109,112,111,114,116] then
  some true
 else if eqS s1 [105,110] then
  some true
 else if eqS s1 [105,110,99,108,117,100,101] then
  some true
 else if eqS s1 [108,101,116] then
  some true
 else if eqS s1 [109,111,100] then
  some true
 else if eqS s1 [109,111,100,117,108,101] then
  some true
 else if eqS s1 [111,102] then
  some true
 else if eqS s1 [111,112,101,110] then
  some true
 else if eqS s1 [111,114,101,108,115,101] then
  some true
 else if eqS s1 [112,97,99,107] then
  some true
 else if eqS s1 [115,104,97,114,105,110,103] then
  some true
 else if eqS s1 [115,105,103] then
  some true
 else if eqS s1 [115,105,103,110,97,116,117,114,101] then
  some true
 else if eqS s1 [115,116,114,117,99,116] then
  some true
 else if eqS s1 [115,116,114,117,99,116,117,114,101] then
  some true
 else if eqS s1 [116,104,101,110] then
  some true
 else if eqS s1 [116,121,112,101] then
  some true
 else if eqS s1 [117,110,112,97,99,107] then
  some true
 else if eqS s1 [118,97,108] then
  some true
 else if eqS s1 [119,105,116,104] then
  some true
 else
  some false
def zA2(kind1:Int)(n2:Int)(text3:List UInt8)(w4:zKn):Option (zKp×Int×Int×zKn):=
 (chk .i64 (w4.at_+n2)).bind fun n5=>
 some ((zKp.mk kind1 text3 (zKq.mk 0 0)),0,0,(zKn.mk w4.s n5))
def zBD(by1:Int)(e2:Int)(w3:zKn):Option (zKp×Int×Int):=
 (chk .i64 (w3.at_+by1)).bind fun n4=>
 some ((zKp.mk 0 [] (zKq.mk 0 0)),n4,e2)
def zBh(s1:List UInt8):Nat->Int->Option Int
 |0,_=>none
 |k7+1,n2=>
  (if ltI n2 s1.length then
   (idx s1 n2).bind fun c11=>
   (zEQ c11).bind fun v15=>
   some v15
  else
   some false:Option Bool).bind fun b19=>
  if b19 then
   (chk .i64 (n2+1)).bind fun n22=>
   zBh s1 k7 n22
  else
   some n2
def zDM(fuel:Nat)(s1:List UInt8):Option Int:=
 (zBh s1 fuel 0).bind fun o3=>
 some o3
def zA7(s1:List UInt8):Nat->Int->Nat->Option ((Int) ⊕ (Unit))
 |0,_,_=>none
 |k18+1,n12,i13=>
  if ltI i13 s1.length then
   (chk .i64 (10*n12)).bind fun n22=>
   (s1[i13]?).bind fun c27=>
   (chk .u8 ((c27.toNat:Int)-48)).bind fun n29=>
   (chk .i64 (n22+n29)).bind fun n35=>
   if ltI 4503599627370496 n35 then
    some (.inl 6)
   else
    zA7 s1 k18 n35 (i13+1)
  else
   some (.inr ())
def zDE(fuel:Nat)(s1:List UInt8):Option Int:=
 (if ltI 1 s1.length then
  (s1[0]?).bind fun c5=>
  some (eqI c5.toNat 48)
 else
  some false:Option Bool).bind fun b9=>
 if b9 then
  some 3
 else
  (zA7 s1 fuel 0 0).bind fun o=>Sum.elim some (fun o14=>
   some 0) o
def zDD(b:List UInt8):Option (List UInt8):=some b
def zCL(b:List UInt8):Option Unit:=some ()
def zAl(c1:UInt8)(b2:List UInt8):Option ((List UInt8)):=
 (zCL b2).bind fun v3=>
 (app 1 b2 [c1]).bind fun l5=>
 some l5
def zDk(c1:UInt8):Option Bool:=
 some ((leI 32 c1.toNat)&&(leI c1.toNat 126))
def zAj(s1:List UInt8):Nat->(List UInt8)->Nat->Option (((List UInt8)×Int×Int×Int) ⊕ ((List UInt8)))
 |0,_,_=>none
 |k8+1,buf2,i3=>
  if ltI i3 s1.length then
   (s1[i3]?).bind fun c12=>
   if eqI c12.toNat 34 then
    (zDD buf2).bind fun v16=>
    some (.inl (v16,((i3+1:Nat):Int),0,0))
   else if (eqI c12.toNat 92)&&(ltI ((i3+1:Nat):Int) (s1.length:Int)) then
    (s1[i3+1]?).bind fun c31=>
    if eqI c31.toNat 34 then
     (zAl c31 buf2).bind fun v35=>
     zAj s1 k8 v35 ((i3+1)+1)
    else if eqI c31.toNat 92 then
     (zAl c31 buf2).bind fun v42=>
     zAj s1 k8 v42 ((i3+1)+1)
    else if eqI c31.toNat 110 then
     (zAl (10:UInt8) buf2).bind fun v49=>
     zAj s1 k8 v49 ((i3+1)+1)
    else
     some (.inl ([],0,((i3+1:Nat):Int)-1,3))
   else if eqI c12.toNat 92 then
    some (.inl ([],0,0,4))
   else
    (zDk c12).bind fun v58=>
    if !v58 then
     some (.inl ([],0,((i3:Nat):Int),3))
    else
     (zAl c12 buf2).bind fun v63=>
     zAj s1 k8 v63 (i3+1)
  else
   some (.inr buf2)
def zDX(fuel:Nat)(s1:List UInt8):Option ((List UInt8)×Int×Int×Int):=
 (zAj s1 fuel [] 1).bind fun o=>Sum.elim some (fun o4=>
  some ([],0,0,4)) o
def zCU(s1:List UInt8)(l5:(List (List UInt8))):Nat->Nat->Option (((List UInt8)×Bool) ⊕ (Unit))
 |0,_=>none
 |k14+1,i9=>
  if ltI i9 l5.length then
   (l5[i9]?).bind fun x18=>
   (zBa s1 x18).bind fun v20=>
   if v20 then
    some (.inl (x18,true))
   else
    zCU s1 l5 k14 (i9+1)
  else
   some (.inr ())
def zEm(fuel:Nat)(s1:List UInt8):Option ((List UInt8)×Bool):=
 (zBa s1 [40,42]).bind fun v2=>
 if v2 then
  some ([],false)
 else
  (some [[58,62],[61,62],[45,62],[60,61]]).bind fun l5=>
  (zCU s1 l5 fuel 0).bind fun o=>Sum.elim some (fun o10=>
   (if !(eqS s1 []) then
    (s1[0]?).bind fun c30=>
    (zCf [40,41,44,59,58,61,124,95,46,42,43,45,60,94,126] c30).bind fun v32=>
    some (leI 0 v32)
   else
    some false:Option Bool).bind fun b35=>
   if b35 then
    (subC s1 0 1).bind fun s38=>
    some (s38,true)
   else
    some ([],false)) o
def zC6(fuel:Nat)(w1:zKn):Option (zKp×Int×Int×zKn):=
 (subC w1.s w1.at_ (w1.s.length:Int)).bind fun s2=>
 (s2[0]?).bind fun c6=>
 ((zDr c6).bind fun v8=>
 if v8 then
  some true
 else
  (zEC c6).bind fun v11=>
  some v11:Option Bool).bind fun b13=>
 if b13 then
  (zCs fuel s2).bind fun v16=>
  (subC s2 0 v16).bind fun s18=>
  (zED s18).bind fun v22=>
  if v22 then
   (zA2 6 v16 s18 w1).bind fun v25=>
   some (v25.1,v25.2.1,v25.2.2.1,v25.2.2.2)
  else if ltI 24 v16 then
   (zBD 0 5 w1).bind fun v30=>
   some (v30.1,v30.2.1,v30.2.2,w1)
  else
   (zDr c6).bind fun v34=>
   if v34 then
    (zA2 1 v16 s18 w1).bind fun v37=>
    some (v37.1,v37.2.1,v37.2.2.1,v37.2.2.2)
   else
    (zA2 2 v16 s18 w1).bind fun v40=>
    some (v40.1,v40.2.1,v40.2.2.1,v40.2.2.2)
 else if eqI c6.toNat 39 then
  (if ltI s2.length 2 then
   some true
  else
   (s2[1]?).bind fun c53=>
   (zDr c53).bind fun v55=>
   some (!v55):Option Bool).bind fun b57=>
  if b57 then
   (zBD 0 3 w1).bind fun v60=>
   some (v60.1,v60.2.1,v60.2.2,w1)
  else
   (subC s2 1 (s2.length:Int)).bind fun s63=>
   (zCs fuel s63).bind fun v67=>
   (chk .i64 (1+v67)).bind fun n69=>
   if ltI 24 n69 then
    (zBD 0 5 w1).bind fun v76=>
    some (v76.1,v76.2.1,v76.2.2,w1)
   else
    (subC s2 0 n69).bind fun s80=>
    (zA2 3 n69 s80 w1).bind fun v84=>
    some (v84.1,v84.2.1,v84.2.2.1,v84.2.2.2)
 else
  (zEQ c6).bind fun v90=>
  if v90 then
   (zDM fuel s2).bind fun v93=>
   (subC s2 0 v93).bind fun s95=>
   (zDE fuel s95).bind fun v99=>
   if !(eqI v99 0) then
    (zBD 0 v99 w1).bind fun v104=>
    some (v104.1,v104.2.1,v104.2.2,w1)
   else
    (zA2 4 v93 s95 w1).bind fun v109=>
    some (v109.1,v109.2.1,v109.2.2.1,v109.2.2.2)
  else if eqI c6.toNat 34 then
   (zDX fuel s2).bind fun v116=>
   if !(eqI v116.2.2.2 0) then
    (zBD v116.2.2.1 v116.2.2.2 w1).bind fun v121=>
    some (v121.1,v121.2.1,v121.2.2,w1)
   else
    (zA2 5 v116.2.1 v116.1 w1).bind fun v126=>
    some (v126.1,v126.2.1,v126.2.2.1,v126.2.2.2)
  else
   (zEm fuel s2).bind fun v131=>
   if v131.2 then
    (zA2 7 (v131.1.length:Int) v131.1 w1).bind fun v134=>
    some (v134.1,v134.2.1,v134.2.2.1,v134.2.2.2)
   else
    (zBD 0 3 w1).bind fun v137=>
    some (v137.1,v137.2.1,v137.2.2,w1)
def zC2(fuel:Nat)(s1:List UInt8):Nat->(List UInt8)->Int->(List zKp)->Option ((List zKp)×zKq×Int)
 |0,_,_,_=>none
 |k12+1,s7,at8,out9=>
  (zCV fuel (zKn.mk s7 at8)).bind fun v13=>
  if leI 0 v13.1 then
   (zCz fuel s1 v13.1).bind fun v17=>
   some ([],v17,4)
  else if leI s1.length v13.2.at_ then
   (zCz fuel s1 (s1.length:Int)).bind fun v23=>
   (app 40 out9 [(zKp.mk 8 [] v23)]).bind fun l25=>
   some (l25,(zKq.mk 0 0),0)
  else if eqI out9.length 20000 then
   (zCz fuel s1 v13.2.at_).bind fun v33=>
   some ([],v33,5)
  else
   (zC6 fuel v13.2).bind fun v37=>
   if !(eqI v37.2.2.1 0) then
    (zCz fuel s1 v37.2.1).bind fun v42=>
    some ([],v42,v37.2.2.1)
   else
    (zCz fuel s1 v13.2.at_).bind fun v47=>
    (app 40 out9 [(zKp.mk v37.1.Kind v37.1.Text v47)]).bind fun l49=>
    zC2 fuel s1 k12 v37.2.2.2.s v37.2.2.2.at_ l49
def zDV(fuel:Nat)(s1:List UInt8):Option ((List zKp)×zKq×Int):=
 if ltI 16384 s1.length then
  some ([],(zKq.mk 0 0),5)
 else
  zC2 fuel s1 fuel s1 0 []
def zAM(k1:Int)(w2:zKm):Option Bool:=
 (idx w2.l w2.at_).bind fun x3=>
 some (eqI x3.Kind k1)
def zDP(w1:zKm):Option ((Unit) ⊕ (Empty)):=
 some (.inl ())
def zAT(k1:Int)(w2:zKm):Option ((Unit) ⊕ ((List UInt8)×zKm)):=
 (zAM k1 w2).bind fun v3=>
 if !v3 then
  (zDP w2).bind fun v7=>
  Sum.elim (fun e9=>
   some (.inl ())) (fun v10=>
   none) v7
 else
  (chk .i64 (w2.at_+1)).bind fun n13=>
  (chk .i64 (n13-1)).bind fun n18=>
  (idx w2.l n18).bind fun x23=>
  some (.inr (x23.Text,(zKm.mk w2.l n13)))
def zAI(s1:List UInt8)(w2:zKm):Option Bool:=
 (idx w2.l w2.at_).bind fun x3=>
 some (if eqI x3.Kind 6 then eqS x3.Text s1 else (eqI x3.Kind 7)&&(eqS x3.Text s1))
def zAH(s1:List UInt8)(w2:zKm):Option (Bool×zKm):=
 (zAI s1 w2).bind fun v3=>
 if !v3 then
  some (false,w2)
 else
  (chk .i64 (w2.at_+1)).bind fun n8=>
  some (true,(zKm.mk w2.l n8))
def zAL(s1:List UInt8)(w2:zKm):Option ((zKm) ⊕ (zKm)):=
 (zAH s1 w2).bind fun v3=>
 if !v3.1 then
  (zDP v3.2).bind fun v7=>
  Sum.elim (fun e9=>
   some (.inl v3.2)) (fun v10=>
   none) v7
 else
  some (.inr v3.2)
def zA8(capital1:Bool):Nat->(List zKp)->Int->(List (List UInt8))->Option (((zKm) ⊕ ((List (List UInt8))×Bool×zKm)) ⊕ ((List (List UInt8))×(List zKp)×Int))
 |0,_,_,_=>none
 |k10+1,l3,at4,l5=>
  (zAM 2 (zKm.mk l3 at4)).bind fun v11=>
  if v11 then
   (zAT 2 (zKm.mk l3 at4)).bind fun v14=>
   Sum.elim (fun e16=>
    some (.inl (.inl (zKm.mk l3 at4)))) (fun v17=>
    (app 16 l5 [v17.1]).bind fun l18=>
    (if capital1 then
     (zAI [46] v17.2).bind fun v23=>
     some (!v23)
    else
     some false:Option Bool).bind fun b25=>
    if b25 then
     some (.inl (.inr (l18,false,v17.2)))
    else
     (zAL [46] v17.2).bind fun v28=>
     Sum.elim (fun e30=>
      some (.inl (.inl e30))) (fun v31=>
      zA8 capital1 k10 v31.l v31.at_ l18) v28) v14
  else
   some (.inr (l5,l3,at4))
def zB4(fuel:Nat)(capital1:Bool)(w2:zKm):Option ((zKm) ⊕ ((List (List UInt8))×Bool×zKm)):=
 (zA8 capital1 fuel w2.l w2.at_ []).bind fun o=>Sum.elim some (fun o6=>
  (zAT 1 (zKm.mk o6.2.1 o6.2.2)).bind fun v41=>
  Sum.elim (fun e43=>
   some (.inl (zKm.mk o6.2.1 o6.2.2))) (fun v44=>
   (app 16 o6.1 [v44.1]).bind fun l45=>
   some (.inr (l45,true,v44.2))) v41) o
def zBF(fuel:Nat)(args1:List zKr)(w2:zKm):Option ((zKm) ⊕ (zKr×zKm)):=
 (zB4 fuel false w2).bind fun v3=>
 Sum.elim (fun e5=>
  some (.inl e5)) (fun v6=>
  some (.inr ((zKr.mk 2 0 [] v6.1 args1),v6.2.2))) v3
def zAv:Nat->(List zKp)->Int->(List (List UInt8))->Option (((zKm) ⊕ ((List (List UInt8))×zKm)) ⊕ ((List (List UInt8))×(List zKp)×Int))
 |0,_,_,_=>none
 |k13+1,l6,at7,out8=>
  (zAH [46] (zKm.mk l6 at7)).bind fun v14=>
  if v14.1 then
   (zAT 2 v14.2).bind fun v17=>
   Sum.elim (fun e19=>
    some (.inl (.inl v14.2))) (fun v20=>
    (app 16 out8 [v20.1]).bind fun l21=>
    zAv k13 v20.2.l v20.2.at_ l21) v17
  else
   some (.inr (out8,v14.2.l,v14.2.at_))
def zAo(fuel:Nat)(w1:zKm):Option ((zKm) ⊕ ((List (List UInt8))×zKm)):=
 (zAT 2 w1).bind fun v2=>
 Sum.elim (fun e4=>
  some (.inl w1)) (fun v5=>
  (zAv fuel v5.2.l v5.2.at_ [v5.1]).bind fun o=>Sum.elim some (fun o9=>
   some (.inr (o9.1,(zKm.mk o9.2.1 o9.2.2)))) o) v2
def zBJ(w1:zKm):Option Bool:=
 ((zAM 2 w1).bind fun v2=>
 if v2 then
  some true
 else
  (zAM 1 w1).bind fun v5=>
  some v5:Option Bool).bind fun b7=>
 some b7
def zBR(F_parsecore_parser_typ:zKm->Option ((zKm) ⊕ (zKr×zKm))):Nat->(List zKp)->Int->(List zKr)->Option (((zKm) ⊕ (zKr×zKm)) ⊕ ((List zKr)×(List zKp)×Int))
 |0,_,_,_=>none
 |k48+1,l41,at42,l43=>
  (zAH [44] (zKm.mk l41 at42)).bind fun v49=>
  if v49.1 then
   (F_parsecore_parser_typ v49.2).bind fun v52=>
   Sum.elim (fun e54=>
    some (.inl (.inl e54))) (fun v55=>
    (app 80 l43 [v55.1]).bind fun l56=>
    zBR F_parsecore_parser_typ k48 v55.2.l v55.2.at_ l56) v52
  else
   some (.inr (l43,v49.2.l,v49.2.at_))
def zA3(fuel:Nat):Nat->(List zKp)->Int->Int->Int->(List UInt8)->(List (List UInt8))->(List zKr)->Option (((zKm) ⊕ (zKr×zKm)) ⊕ ((List zKp)×Int×Int×Int×(List UInt8)×(List (List UInt8))×(List zKr)))
 |0,_,_,_,_,_,_,_=>none
 |k17+1,l6,at7,Op8,N9,S10,Names11,L12=>
  (zBJ (zKm.mk l6 at7)).bind fun v18=>
  if v18 then
   (zBF fuel [(zKr.mk Op8 N9 S10 Names11 L12)] (zKm.mk l6 at7)).bind fun v21=>
   Sum.elim (fun e23=>
    some (.inl (.inl e23))) (fun v24=>
    zA3 fuel k17 v24.2.l v24.2.at_ v24.1.Op v24.1.N v24.1.S v24.1.Names v24.1.L) v21
  else
   some (.inr (l6,at7,Op8,N9,S10,Names11,L12))
def zBI(F_parsecore_parser_postfix:zKm->Option ((zKm) ⊕ (zKr×zKm))):Nat->(List zKp)->Int->(List zKr)->Option (((zKm) ⊕ (zKr×zKm)) ⊕ ((List zKr)×(List zKp)×Int))
 |0,_,_,_=>none
 |k13+1,l6,at7,l8=>
  (zAH [42] (zKm.mk l6 at7)).bind fun v14=>
  if v14.1 then
   (F_parsecore_parser_postfix v14.2).bind fun v17=>
   Sum.elim (fun e19=>
    some (.inl (.inl e19))) (fun v20=>
    (app 80 l8 [v20.1]).bind fun l21=>
    zBI F_parsecore_parser_postfix k13 v20.2.l v20.2.at_ l21) v17
  else
   some (.inr (l8,v14.2.l,v14.2.at_))
mutual
def zB9:Nat->zKm->Option ((zKm) ⊕ (zKr×zKm))
 |0,_=>none
 |fuel+1,w1=>
  (zAM 3 w1).bind fun v2=>
  if v2 then
   (zAT 3 w1).bind fun v5=>
   Sum.elim (fun e7=>
    some (.inl w1)) (fun v8=>
    some (.inr ((zKr.mk 1 0 v8.1 [] []),v8.2))) v5
  else
   (zAH [40] w1).bind fun v11=>
   if !v11.1 then
    (zBF fuel [] v11.2).bind fun v15=>
    Sum.elim (fun e17=>
     some (.inl e17)) (fun v18=>
     some (.inr (v18.1,v18.2))) v15
   else
    (zAH [109,111,100,117,108,101] v11.2).bind fun v22=>
    if v22.1 then
     (zAo fuel v22.2).bind fun v25=>
     Sum.elim (fun e27=>
      some (.inl e27)) (fun v28=>
      (zAL [41] v28.2).bind fun v29=>
      Sum.elim (fun e31=>
       some (.inl e31)) (fun v32=>
       some (.inr ((zKr.mk 5 0 [] v28.1 []),v32))) v29) v25
    else
     ((zAu fuel) v22.2).bind fun v37=>
     Sum.elim (fun e39=>
      some (.inl e39)) (fun v40=>
      (zBR (zAu fuel) fuel v40.2.l v40.2.at_ [v40.1]).bind fun o=>Sum.elim some (fun o44=>
       (zAL [41] (zKm.mk o44.2.1 o44.2.2)).bind fun v66=>
       Sum.elim (fun e68=>
        some (.inl e68)) (fun v69=>
        if eqI o44.1.length 1 then
         (o44.1[0]?).bind fun x72=>
         some (.inr (x72,v69))
        else
         (zBF fuel o44.1 v69).bind fun v75=>
         Sum.elim (fun e77=>
          some (.inl e77)) (fun v78=>
          some (.inr (v78.1,v78.2))) v75) v66) o) v37
def zBM:Nat->zKm->Option ((zKm) ⊕ (zKr×zKm))
 |0,_=>none
 |fuel+1,w1=>
  ((zB9 fuel) w1).bind fun v2=>
  Sum.elim (fun e4=>
   some (.inl e4)) (fun v5=>
   (zA3 fuel fuel v5.2.l v5.2.at_ v5.1.Op v5.1.N v5.1.S v5.1.Names v5.1.L).bind fun o=>Sum.elim some (fun o13=>
    some (.inr ((zKr.mk o13.2.2.1 o13.2.2.2.1 o13.2.2.2.2.1 o13.2.2.2.2.2.1 o13.2.2.2.2.2.2),(zKm.mk o13.1 o13.2.1)))) o) v2
def zB1:Nat->zKm->Option ((zKm) ⊕ (zKr×zKm))
 |0,_=>none
 |fuel+1,w1=>
  ((zBM fuel) w1).bind fun v2=>
  Sum.elim (fun e4=>
   some (.inl e4)) (fun v5=>
   (zBI (zBM fuel) fuel v5.2.l v5.2.at_ [v5.1]).bind fun o=>Sum.elim some (fun o9=>
    if eqI o9.1.length 1 then
     (o9.1[0]?).bind fun x33=>
     some (.inr (x33,(zKm.mk o9.2.1 o9.2.2)))
    else
     some (.inr ((zKr.mk 4 0 [] [] o9.1),(zKm.mk o9.2.1 o9.2.2)))) o) v2
def zAu:Nat->zKm->Option ((zKm) ⊕ (zKr×zKm))
 |0,_=>none
 |fuel+1,w1=>
  ((zB1 fuel) w1).bind fun v2=>
  Sum.elim (fun e4=>
   some (.inl e4)) (fun v5=>
   (zAH [45,62] v5.2).bind fun v6=>
   if v6.1 then
    ((zAu fuel) v6.2).bind fun v9=>
    Sum.elim (fun e11=>
     some (.inl e11)) (fun v12=>
     some (.inr ((zKr.mk 3 0 [] [] [v5.1,v12.1]),v12.2))) v9
   else
    some (.inr (v5.1,v6.2))) v2
end
def zDh(c1:UInt8):Option Int:=
 if (leI 97 c1.toNat)&&(leI c1.toNat 122) then
  some 1
 else if (leI 65 c1.toNat)&&(leI c1.toNat 90) then
  some 2
 else if (leI 48 c1.toNat)&&(leI c1.toNat 57) then
  some 3
 else if eqI c1.toNat 95 then
  some 4
 else if eqI c1.toNat 46 then
  some 5
 else
  some 0
def zEl(s:List UInt8):Option (Int×Bool):=if s.length<=1000000 then (match Lib.atoiAll s with
 |.ok v=>some (v,false)
 |.range=>some (Lib.atoiSat s,true)
 |_=>some (0,true)) else none
def zBj(l13:List UInt8):Nat->Nat->Option ((Int×Int) ⊕ (Unit))
 |0,_=>none
 |k22+1,i17=>
  if ltI i17 l13.length then
   (l13[i17]?).bind fun x26=>
   (zDh x26).bind fun v28=>
   if !(eqI v28 3) then
    some (.inl (0,3))
   else
    zBj l13 k22 (i17+1)
  else
   some (.inr ())
def zCv(fuel:Nat)(s1:List UInt8):Option (Int×Int):=
 (if eqS s1 [] then
  some true
 else if ltI 1 s1.length then
  (s1[0]?).bind fun c6=>
  some (eqI c6.toNat 48)
 else
  some false:Option Bool).bind fun b10=>
 if b10 then
  some (0,3)
 else
  (zKi s1).bind fun l13=>
  (zBj l13 fuel 0).bind fun o=>Sum.elim some (fun o18=>
   (zEl s1).bind fun v40=>
   if v40.2 then
    some (0,6)
   else if ltI 4503599627370496 v40.1 then
    some (0,6)
   else
    some (v40.1,0)) o
def zBm(fuel:Nat)(w1:zKm):Option ((Unit) ⊕ (Int×zKm)):=
 (zAT 4 w1).bind fun v2=>
 Sum.elim (fun e4=>
  some (.inl ())) (fun v5=>
  (zCv fuel v5.1).bind fun v6=>
  some (.inr (v6.1,v5.2))) v2
def zBE(F_parsecore_parser_pattern:zKm->Option ((zKm) ⊕ (zKr×zKm))):Nat->(List zKp)->Int->(List zKr)->Option (((zKm) ⊕ (zKr×zKm)) ⊕ ((List zKr)×(List zKp)×Int))
 |0,_,_,_=>none
 |k63+1,l56,at57,l58=>
  (zAH [44] (zKm.mk l56 at57)).bind fun v64=>
  if v64.1 then
   (F_parsecore_parser_pattern v64.2).bind fun v67=>
   Sum.elim (fun e69=>
    some (.inl (.inl e69))) (fun v70=>
    (app 80 l58 [v70.1]).bind fun l71=>
    zBE F_parsecore_parser_pattern k63 v70.2.l v70.2.at_ l71) v67
  else
   some (.inr (l58,v64.2.l,v64.2.at_))
mutual
def zBX:Nat->zKm->Option ((zKm) ⊕ (zKr×zKm))
 |0,_=>none
 |fuel+1,w1=>
  (zAH [95] w1).bind fun v2=>
  if v2.1 then
   some (.inr ((zKr.mk 11 0 [] [] []),v2.2))
  else
   (zAH [126] v2.2).bind fun v5=>
   if v5.1 then
    (zBm fuel v5.2).bind fun v8=>
    Sum.elim (fun e10=>
     some (.inl v5.2)) (fun v11=>
     (chk .i64 (-v11.1)).bind fun n12=>
     some (.inr ((zKr.mk 13 n12 [] [] []),v11.2))) v8
   else
    (zAM 4 v5.2).bind fun v18=>
    if v18 then
     (zBm fuel v5.2).bind fun v21=>
     Sum.elim (fun e23=>
      some (.inl v5.2)) (fun v24=>
      some (.inr ((zKr.mk 13 v24.1 [] [] []),v24.2))) v21
    else
     (zAM 1 v5.2).bind fun v27=>
     if v27 then
      (zAT 1 v5.2).bind fun v30=>
      Sum.elim (fun e32=>
       some (.inl v5.2)) (fun v33=>
       some (.inr ((zKr.mk 12 0 v33.1 [] []),v33.2))) v30
     else
      (zAM 2 v5.2).bind fun v36=>
      if v36 then
       (zAo fuel v5.2).bind fun v39=>
       Sum.elim (fun e41=>
        some (.inl e41)) (fun v42=>
        some (.inr ((zKr.mk 14 0 [] v42.1 []),v42.2))) v39
      else
       (zAL [40] v5.2).bind fun v45=>
       Sum.elim (fun e47=>
        some (.inl e47)) (fun v48=>
        (zAH [41] v48).bind fun v49=>
        if v49.1 then
         some (.inr ((zKr.mk 15 0 [] [] []),v49.2))
        else
         ((zAh fuel) v49.2).bind fun v52=>
         Sum.elim (fun e54=>
          some (.inl e54)) (fun v55=>
          (zBE (zAh fuel) fuel v55.2.l v55.2.at_ [v55.1]).bind fun o=>Sum.elim some (fun o59=>
           (zAL [41] (zKm.mk o59.2.1 o59.2.2)).bind fun v81=>
           Sum.elim (fun e83=>
            some (.inl e83)) (fun v84=>
            if eqI o59.1.length 1 then
             (o59.1[0]?).bind fun x87=>
             some (.inr (x87,v84))
            else
             some (.inr ((zKr.mk 15 0 [] [] o59.1),v84))) v81) o) v52) v45
def zAh:Nat->zKm->Option ((zKm) ⊕ (zKr×zKm))
 |0,_=>none
 |fuel+1,w1=>
  (zAM 2 w1).bind fun v2=>
  if !v2 then
   ((zBX fuel) w1).bind fun v6=>
   Sum.elim (fun e8=>
    some (.inl e8)) (fun v9=>
    some (.inr (v9.1,v9.2))) v6
  else
   (zAo fuel w1).bind fun v13=>
   Sum.elim (fun e15=>
    some (.inl e15)) (fun v16=>
    ((zBJ v16.2).bind fun v17=>
    if v17 then
     some true
    else
     (zAM 4 v16.2).bind fun v20=>
     if v20 then
      some true
     else
      (zAI [95] v16.2).bind fun v23=>
      if v23 then
       some true
      else
       (zAI [126] v16.2).bind fun v26=>
       if v26 then
        some true
       else
        (zAI [40] v16.2).bind fun v29=>
        some v29:Option Bool).bind fun b31=>
    if b31 then
     ((zBX fuel) v16.2).bind fun v34=>
     Sum.elim (fun e36=>
      some (.inl e36)) (fun v37=>
      some (.inr ((zKr.mk 14 0 [] v16.1 [v37.1]),v37.2))) v34
    else
     some (.inr ((zKr.mk 14 0 [] v16.1 []),v16.2))) v13
end
def zCC(w1:zKm):Option Bool:=
 (idx w1.l w1.at_).bind fun x2=>
 if eqI x2.Kind 4 then
  some true
 else if eqI x2.Kind 5 then
  some true
 else if eqI x2.Kind 1 then
  some true
 else if eqI x2.Kind 2 then
  some true
 else
  ((zAI [40] w1).bind fun v18=>
  if v18 then
   some true
  else
   (zAI [108,101,116] w1).bind fun v21=>
   if v21 then
    some true
   else
    (zAI [99,97,115,101] w1).bind fun v24=>
    some v24:Option Bool).bind fun b26=>
  some b26
def zBq(level1:Int)(w2:zKm):Option Int:=
 (if eqI level1 1 then
  (zAI [111,114,101,108,115,101] w2).bind fun v5=>
  some v5
 else
  some false:Option Bool).bind fun b8=>
 if b8 then
  some 1
 else
  (if eqI level1 2 then
   (zAI [97,110,100,97,108,115,111] w2).bind fun v13=>
   some v13
  else
   some false:Option Bool).bind fun b16=>
  if b16 then
   some 2
  else
   (if eqI level1 3 then
    (zAI [61] w2).bind fun v21=>
    some v21
   else
    some false:Option Bool).bind fun b24=>
   if b24 then
    some 3
   else
    (if eqI level1 3 then
     (zAI [60] w2).bind fun v29=>
     some v29
    else
     some false:Option Bool).bind fun b32=>
    if b32 then
     some 4
    else
     (if eqI level1 3 then
      (zAI [60,61] w2).bind fun v37=>
      some v37
     else
      some false:Option Bool).bind fun b40=>
     if b40 then
      some 5
     else
      (if eqI level1 4 then
       (zAI [94] w2).bind fun v45=>
       some v45
      else
       some false:Option Bool).bind fun b48=>
      if b48 then
       some 6
      else
       (if eqI level1 5 then
        (zAI [43] w2).bind fun v53=>
        some v53
       else
        some false:Option Bool).bind fun b56=>
       if b56 then
        some 7
       else
        (if eqI level1 5 then
         (zAI [45] w2).bind fun v61=>
         some v61
        else
         some false:Option Bool).bind fun b64=>
        if b64 then
         some 8
        else
         (if eqI level1 6 then
          (zAI [42] w2).bind fun v69=>
          some v69
         else
          some false:Option Bool).bind fun b72=>
         if b72 then
          some 9
         else
          (if eqI level1 6 then
           (zAI [100,105,118] w2).bind fun v77=>
           some v77
          else
           some false:Option Bool).bind fun b80=>
          if b80 then
           some 10
          else
           (if eqI level1 6 then
            (zAI [109,111,100] w2).bind fun v85=>
            some v85
           else
            some false:Option Bool).bind fun b88=>
           if b88 then
            some 11
           else
            some 0
def zBS(F_parsecore_parser_expr:zKm->Option ((zKm) ⊕ (zKr×zKm))):Nat->(List zKp)->Int->(List zKr)->Option (((zKm) ⊕ (zKr×zKm)) ⊕ ((List zKr)×(List zKp)×Int))
 |0,_,_,_=>none
 |k62+1,l55,at56,l57=>
  (zAH [44] (zKm.mk l55 at56)).bind fun v63=>
  if v63.1 then
   (F_parsecore_parser_expr v63.2).bind fun v66=>
   Sum.elim (fun e68=>
    some (.inl (.inl e68))) (fun v69=>
    (app 80 l57 [v69.1]).bind fun l70=>
    zBS F_parsecore_parser_expr k62 v69.2.l v69.2.at_ l70) v66
  else
   some (.inr (l57,v63.2.l,v63.2.at_))
def zBB(fuel:Nat)(F_parsecore_parser_expr:zKm->Option ((zKm) ⊕ (zKr×zKm))):Nat->(List zKp)->Int->(List zKr)->Option ((zKm) ⊕ (zKr×zKm))
 |0,_,_,_=>none
 |k15+1,l10,at11,L12=>
  (zAh fuel (zKm.mk l10 at11)).bind fun v16=>
  Sum.elim (fun e18=>
   some (.inl e18)) (fun v19=>
   (zAL [61,62] v19.2).bind fun v20=>
   Sum.elim (fun e22=>
    some (.inl e22)) (fun v23=>
    (F_parsecore_parser_expr v23).bind fun v24=>
    Sum.elim (fun e26=>
     some (.inl e26)) (fun v27=>
     (app 80 [v19.1] [v27.1]).bind fun l28=>
     (app 80 L12 [(zKr.mk 30 0 [] [] l28)]).bind fun l32=>
     (zAH [124] v27.2).bind fun v37=>
     if !v37.1 then
      (zAL [101,110,100] v37.2).bind fun v41=>
      Sum.elim (fun e43=>
       some (.inl e43)) (fun v44=>
       some (.inr ((zKr.mk 29 0 [] [] l32),v44))) v41
     else
      zBB fuel F_parsecore_parser_expr k15 v37.2.l v37.2.at_ l32) v24) v20) v16
def zAz(F_parsecore_parser_atom:zKm->Option ((zKm) ⊕ (zKr×zKm))):Nat->(List zKp)->Int->Int->Int->(List UInt8)->(List (List UInt8))->(List zKr)->Option (((zKm) ⊕ (zKr×zKm)) ⊕ ((List zKp)×Int×Int×Int×(List UInt8)×(List (List UInt8))×(List zKr)))
 |0,_,_,_,_,_,_,_=>none
 |k26+1,l15,at16,Op17,N18,S19,Names20,L21=>
  (zCC (zKm.mk l15 at16)).bind fun v27=>
  if v27 then
   (F_parsecore_parser_atom (zKm.mk l15 at16)).bind fun v30=>
   Sum.elim (fun e32=>
    some (.inl (.inl e32))) (fun v33=>
    zAz F_parsecore_parser_atom k26 v33.2.l v33.2.at_ 26 0 [] [] [(zKr.mk Op17 N18 S19 Names20 L21),v33.1]) v30
  else
   some (.inr (l15,at16,Op17,N18,S19,Names20,L21))
def zBG(F_parsecore_parser_level:Int->zKm->Option ((zKm) ⊕ (zKr×zKm)))(n1:Int)(n12:Int):Nat->(List zKp)->Int->Int->Int->(List UInt8)->(List (List UInt8))->(List zKr)->Option ((zKm) ⊕ (zKr×zKm))
 |0,_,_,_,_,_,_,_=>none
 |k30+1,l21,at22,Op23,N24,S25,Names26,L27=>
  (zBq n1 (zKm.mk l21 at22)).bind fun v31=>
  if eqI v31 0 then
   some (.inr ((zKr.mk Op23 N24 S25 Names26 L27),(zKm.mk l21 at22)))
  else
   (chk .i64 (at22+1)).bind fun n36=>
   if eqI n1 1 then
    (F_parsecore_parser_level n1 (zKm.mk l21 n36)).bind fun v43=>
    Sum.elim (fun e45=>
     some (.inl e45)) (fun v46=>
     some (.inr ((zKr.mk 32 v31 [] [] [(zKr.mk Op23 N24 S25 Names26 L27),v46.1]),v46.2))) v43
   else if eqI n1 2 then
    (F_parsecore_parser_level n1 (zKm.mk l21 n36)).bind fun v52=>
    Sum.elim (fun e54=>
     some (.inl e54)) (fun v55=>
     some (.inr ((zKr.mk 32 v31 [] [] [(zKr.mk Op23 N24 S25 Names26 L27),v55.1]),v55.2))) v52
   else if eqI n1 4 then
    (F_parsecore_parser_level n1 (zKm.mk l21 n36)).bind fun v61=>
    Sum.elim (fun e63=>
     some (.inl e63)) (fun v64=>
     some (.inr ((zKr.mk 32 v31 [] [] [(zKr.mk Op23 N24 S25 Names26 L27),v64.1]),v64.2))) v61
   else if eqI n1 3 then
    (F_parsecore_parser_level (n1+1) (zKm.mk l21 n36)).bind fun v71=>
    Sum.elim (fun e73=>
     some (.inl e73)) (fun v74=>
     some (.inr ((zKr.mk 32 v31 [] [] [(zKr.mk Op23 N24 S25 Names26 L27),v74.1]),v74.2))) v71
   else
    (F_parsecore_parser_level n12 (zKm.mk l21 n36)).bind fun v79=>
    Sum.elim (fun e81=>
     some (.inl e81)) (fun v82=>
     zBG F_parsecore_parser_level n1 n12 k30 v82.2.l v82.2.at_ 32 v31 [] [] [(zKr.mk Op23 N24 S25 Names26 L27),v82.1]) v79
def zBN:Nat->(List zKp)->Int->(List (List UInt8))->Option (((zKm) ⊕ (zKr×zKm)) ⊕ ((List zKp)×Int×(List (List UInt8))))
 |0,_,_,_=>none
 |k41+1,l34,at35,Names36=>
  (zAM 1 (zKm.mk l34 at35)).bind fun v42=>
  if v42 then
   (zAT 1 (zKm.mk l34 at35)).bind fun v45=>
   Sum.elim (fun e47=>
    some (.inl (.inl (zKm.mk l34 at35)))) (fun v48=>
    (app 16 Names36 [v48.1]).bind fun l49=>
    zBN k41 v48.2.l v48.2.at_ l49) v45
  else
   some (.inr (l34,at35,Names36))
def zBV(F_parsecore_parser_decl:zKm->Option ((zKm) ⊕ (zKr×zKm))):Nat->(List zKp)->Int->(List zKr)->Option (((zKm) ⊕ (zKr×zKm)) ⊕ ((List zKp)×Int×(List zKr)))
 |0,_,_,_=>none
 |k9+1,l2,at3,L4=>
  (zAH [105,110] (zKm.mk l2 at3)).bind fun v10=>
  if !v10.1 then
   (F_parsecore_parser_decl v10.2).bind fun v14=>
   Sum.elim (fun e16=>
    some (.inl (.inl e16))) (fun v17=>
    (app 80 L4 [v17.1]).bind fun l18=>
    zBV F_parsecore_parser_decl k9 v17.2.l v17.2.at_ l18) v14
  else
   some (.inr (v10.2.l,v10.2.at_,L4))
mutual
def zCA:Nat->zKm->Option ((zKm) ⊕ (zKr×zKm))
 |0,_=>none
 |fuel+1,w1=>
  (zAH [41] w1).bind fun v2=>
  if v2.1 then
   some (.inr ((zKr.mk 27 0 [] [] []),v2.2))
  else
   (zAH [112,97,99,107] v2.2).bind fun v5=>
   if v5.1 then
    (zAo fuel v5.2).bind fun v8=>
    Sum.elim (fun e10=>
     some (.inl e10)) (fun v11=>
     (zAL [58] v11.2).bind fun v12=>
     Sum.elim (fun e14=>
      some (.inl e14)) (fun v15=>
      (zAo fuel v15).bind fun v16=>
      Sum.elim (fun e18=>
       some (.inl e18)) (fun v19=>
       (zAL [41] v19.2).bind fun v20=>
       Sum.elim (fun e22=>
        some (.inl e22)) (fun v23=>
        some (.inr ((zKr.mk 34 0 [] v11.1 [(zKr.mk 72 0 [] v19.1 [])]),v23))) v20) v16) v12) v8
   else
    ((zAW fuel) v5.2).bind fun v32=>
    Sum.elim (fun e34=>
     some (.inl e34)) (fun v35=>
     (zAH [58] v35.2).bind fun v36=>
     if v36.1 then
      (zAu fuel v36.2).bind fun v39=>
      Sum.elim (fun e41=>
       some (.inl e41)) (fun v42=>
       (app 80 [v35.1] [v42.1]).bind fun l43=>
       (zAL [41] v42.2).bind fun v47=>
       Sum.elim (fun e49=>
        some (.inl e49)) (fun v50=>
        some (.inr ((zKr.mk 33 0 [] [] l43),v50))) v47) v39
     else
      (zBS (zAW fuel) fuel v36.2.l v36.2.at_ [v35.1]).bind fun o=>Sum.elim some (fun o58=>
       (zAL [41] (zKm.mk o58.2.1 o58.2.2)).bind fun v80=>
       Sum.elim (fun e82=>
        some (.inl e82)) (fun v83=>
        if eqI o58.1.length 1 then
         (o58.1[0]?).bind fun x86=>
         some (.inr (x86,v83))
        else
         some (.inr ((zKr.mk 27 0 [] [] o58.1),v83))) v80) o) v32
def zCB:Nat->zKm->Option ((zKm) ⊕ (zKr×zKm))
 |0,_=>none
 |fuel+1,w1=>
  ((zAW fuel) w1).bind fun v2=>
  Sum.elim (fun e4=>
   some (.inl e4)) (fun v5=>
   (zAL [111,102] v5.2).bind fun v6=>
   Sum.elim (fun e8=>
    some (.inl e8)) (fun v9=>
    zBB fuel (zAW fuel) fuel v9.l v9.at_ [v5.1]) v6) v2
def zBW:Nat->zKm->Option ((zKm) ⊕ (zKr×zKm))
 |0,_=>none
 |fuel+1,w1=>
  (zAH [126] w1).bind fun v2=>
  if v2.1 then
   ((zBW fuel) v2.2).bind fun v5=>
   Sum.elim (fun e7=>
    some (.inl e7)) (fun v8=>
    some (.inr ((zKr.mk 32 12 [] [] [v8.1]),v8.2))) v5
  else
   ((zA1 fuel) v2.2).bind fun v11=>
   Sum.elim (fun e13=>
    some (.inl e13)) (fun v14=>
    (zAz (zA1 fuel) fuel v14.2.l v14.2.at_ v14.1.Op v14.1.N v14.1.S v14.1.Names v14.1.L).bind fun o=>Sum.elim some (fun o22=>
     some (.inr ((zKr.mk o22.2.2.1 o22.2.2.2.1 o22.2.2.2.2.1 o22.2.2.2.2.2.1 o22.2.2.2.2.2.2),(zKm.mk o22.1 o22.2.1)))) o) v11
def zBK:Nat->Int->zKm->Option ((zKm) ⊕ (zKr×zKm))
 |0,_,_=>none
 |fuel+1,n1,w2=>
  if eqI n1 7 then
   ((zBW fuel) w2).bind fun v5=>
   Sum.elim (fun e7=>
    some (.inl e7)) (fun v8=>
    some (.inr (v8.1,v8.2))) v5
  else
   (chk .i64 (n1+1)).bind fun n12=>
   ((zBK fuel) n12 w2).bind fun v17=>
   Sum.elim (fun e19=>
    some (.inl e19)) (fun v20=>
    zBG (zBK fuel) n1 n12 fuel v20.2.l v20.2.at_ v20.1.Op v20.1.N v20.1.S v20.1.Names v20.1.L) v17
def zAW:Nat->zKm->Option ((zKm) ⊕ (zKr×zKm))
 |0,_=>none
 |fuel+1,w1=>
  (zAH [102,110] w1).bind fun v2=>
  if v2.1 then
   (zAH [95] v2.2).bind fun v5=>
   if !v5.1 then
    (zAT 1 v5.2).bind fun v9=>
    Sum.elim (fun e11=>
     some (.inl v5.2)) (fun v12=>
     (zAL [61,62] v12.2).bind fun v13=>
     Sum.elim (fun e15=>
      some (.inl e15)) (fun v16=>
      ((zAW fuel) v16).bind fun v17=>
      Sum.elim (fun e19=>
       some (.inl e19)) (fun v20=>
       some (.inr ((zKr.mk 25 0 v12.1 [] [v20.1]),v20.2))) v17) v13) v9
   else
    (zAL [61,62] v5.2).bind fun v28=>
    Sum.elim (fun e30=>
     some (.inl e30)) (fun v31=>
     ((zAW fuel) v31).bind fun v32=>
     Sum.elim (fun e34=>
      some (.inl e34)) (fun v35=>
      some (.inr ((zKr.mk 25 0 [] [] [v35.1]),v35.2))) v32) v28
  else
   (zAH [105,102] v2.2).bind fun v41=>
   if v41.1 then
    ((zAW fuel) v41.2).bind fun v44=>
    Sum.elim (fun e46=>
     some (.inl e46)) (fun v47=>
     (zAL [116,104,101,110] v47.2).bind fun v48=>
     Sum.elim (fun e50=>
      some (.inl e50)) (fun v51=>
      ((zAW fuel) v51).bind fun v52=>
      Sum.elim (fun e54=>
       some (.inl e54)) (fun v55=>
       (app 80 [v47.1] [v55.1]).bind fun l56=>
       (zAL [101,108,115,101] v55.2).bind fun v60=>
       Sum.elim (fun e62=>
        some (.inl e62)) (fun v63=>
        ((zAW fuel) v63).bind fun v64=>
        Sum.elim (fun e66=>
         some (.inl e66)) (fun v67=>
         (app 80 l56 [v67.1]).bind fun l68=>
         some (.inr ((zKr.mk 28 0 [] [] l68),v67.2))) v64) v60) v52) v48) v44
   else
    ((zBK fuel) 1 v41.2).bind fun v83=>
    Sum.elim (fun e85=>
     some (.inl e85)) (fun v86=>
     some (.inr (v86.1,v86.2))) v83
def zB5:Nat->zKm->Option ((zKm) ⊕ (zKr×zKm))
 |0,_=>none
 |fuel+1,w1=>
  (zAH [118,97,108] w1).bind fun v2=>
  if v2.1 then
   (zAT 1 v2.2).bind fun v5=>
   Sum.elim (fun e7=>
    some (.inl v2.2)) (fun v8=>
    (zAL [61] v8.2).bind fun v9=>
    Sum.elim (fun e11=>
     some (.inl e11)) (fun v12=>
     ((zAW fuel) v12).bind fun v13=>
     Sum.elim (fun e15=>
      some (.inl e15)) (fun v16=>
      some (.inr ((zKr.mk 41 0 v8.1 [] [v16.1]),v16.2))) v13) v9) v5
  else
   (zAH [102,117,110] v2.2).bind fun v23=>
   if v23.1 then
    (zAT 1 v23.2).bind fun v26=>
    Sum.elim (fun e28=>
     some (.inl v23.2)) (fun v29=>
     (zAT 1 v29.2).bind fun v30=>
     Sum.elim (fun e32=>
      some (.inl v29.2)) (fun v33=>
      (zBN fuel v33.2.l v33.2.at_ [v33.1]).bind fun o=>Sum.elim some (fun o37=>
       (zAL [61] (zKm.mk o37.1 o37.2.1)).bind fun v59=>
       Sum.elim (fun e61=>
        some (.inl e61)) (fun v62=>
        ((zAW fuel) v62).bind fun v63=>
        Sum.elim (fun e65=>
         some (.inl e65)) (fun v66=>
         some (.inr ((zKr.mk 42 0 v29.1 o37.2.2 [v66.1]),v66.2))) v63) v59) o) v30) v26
   else
    (zAL [115,116,114,117,99,116,117,114,101] v23.2).bind fun v77=>
    Sum.elim (fun e79=>
     some (.inl e79)) (fun v80=>
     (zAT 2 v80).bind fun v81=>
     Sum.elim (fun e83=>
      some (.inl v80)) (fun v84=>
      (zAL [61] v84.2).bind fun v85=>
      Sum.elim (fun e87=>
       some (.inl e87)) (fun v88=>
       (zAL [117,110,112,97,99,107] v88).bind fun v89=>
       Sum.elim (fun e91=>
        some (.inl e91)) (fun v92=>
        ((zA1 fuel) v92).bind fun v93=>
        Sum.elim (fun e95=>
         some (.inl e95)) (fun v96=>
         (zAL [58] v96.2).bind fun v97=>
         Sum.elim (fun e99=>
          some (.inl e99)) (fun v100=>
          (zAo fuel v100).bind fun v101=>
          Sum.elim (fun e103=>
           some (.inl e103)) (fun v104=>
           (app 80 [v96.1] [(zKr.mk 72 0 [] v104.1 [])]).bind fun l105=>
           some (.inr ((zKr.mk 50 0 v84.1 [] l105),v104.2))) v101) v97) v93) v89) v85) v81) v77
def zCY:Nat->zKm->Option ((zKm) ⊕ (zKr×zKm))
 |0,_=>none
 |fuel+1,w1=>
  (zBV (zB5 fuel) fuel w1.l w1.at_ []).bind fun o=>Sum.elim some (fun o5=>
   ((zAW fuel) (zKm.mk o5.1 o5.2.1)).bind fun v29=>
   Sum.elim (fun e31=>
    some (.inl e31)) (fun v32=>
    (app 80 o5.2.2 [v32.1]).bind fun l33=>
    (zAL [101,110,100] v32.2).bind fun v37=>
    Sum.elim (fun e39=>
     some (.inl e39)) (fun v40=>
     some (.inr ((zKr.mk 31 0 [] [] l33),v40))) v37) v29) o
def zA1:Nat->zKm->Option ((zKm) ⊕ (zKr×zKm))
 |0,_=>none
 |fuel+1,w1=>
  (zAM 4 w1).bind fun v2=>
  if v2 then
   (zBm fuel w1).bind fun v5=>
   Sum.elim (fun e7=>
    some (.inl w1)) (fun v8=>
    some (.inr ((zKr.mk 21 v8.1 [] [] []),v8.2))) v5
  else
   (zAM 5 w1).bind fun v11=>
   if v11 then
    (zAT 5 w1).bind fun v14=>
    Sum.elim (fun e16=>
     some (.inl w1)) (fun v17=>
     some (.inr ((zKr.mk 22 0 v17.1 [] []),v17.2))) v14
   else
    (zBJ w1).bind fun v20=>
    if v20 then
     (zB4 fuel true w1).bind fun v23=>
     Sum.elim (fun e25=>
      some (.inl e25)) (fun v26=>
      if v26.2.1 then
       some (.inr ((zKr.mk 23 0 [] v26.1 []),v26.2.2))
      else
       some (.inr ((zKr.mk 24 0 [] v26.1 []),v26.2.2))) v23
    else
     (zAH [108,101,116] w1).bind fun v30=>
     if v30.1 then
      ((zCY fuel) v30.2).bind fun v33=>
      Sum.elim (fun e35=>
       some (.inl e35)) (fun v36=>
       some (.inr (v36.1,v36.2))) v33
     else
      (zAH [99,97,115,101] v30.2).bind fun v39=>
      if v39.1 then
       ((zCB fuel) v39.2).bind fun v42=>
       Sum.elim (fun e44=>
        some (.inl e44)) (fun v45=>
        some (.inr (v45.1,v45.2))) v42
      else
       (zAL [40] v39.2).bind fun v48=>
       Sum.elim (fun e50=>
        some (.inl e50)) (fun v51=>
        ((zCA fuel) v51).bind fun v52=>
        Sum.elim (fun e54=>
         some (.inl e54)) (fun v55=>
         some (.inr (v55.1,v55.2))) v52) v48
end
def zBC(v:Option (zKm ⊕ (zKr×zKm))):Option (zKr×Bool×zKm):=
 v.bind fun v=>Sum.elim (fun e=>some ((zKr.mk 0 0 [] [] []),false,e)) (fun v=>some (v.1,true,v.2)) v
def zCX(fuel:Nat)(cat:Int)(w:zKm):Option (zKr×Bool×zKm):=
 if eqI cat 1 then zBC (zAu fuel w)
 else if eqI cat 2 then zBC (zAh fuel w)
 else if eqI cat (-1) then zBC (zA1 fuel w)
 else zBC (zAW fuel w)
def zB0(w1:zKm):Option Int:=
 (zAM 8 w1).bind fun v2=>
 if v2 then
  some 4
 else
  some 3
def zDg(op1:Int):Option Int:=
 if eqI op1 1 then
  some 1
 else if eqI op1 2 then
  some 1
 else if eqI op1 3 then
  some 1
 else if eqI op1 4 then
  some 1
 else if eqI op1 5 then
  some 1
 else if eqI op1 11 then
  some 2
 else if eqI op1 12 then
  some 2
 else if eqI op1 13 then
  some 2
 else if eqI op1 14 then
  some 2
 else if eqI op1 15 then
  some 2
 else if eqI op1 21 then
  some 3
 else if eqI op1 22 then
  some 3
 else if eqI op1 23 then
  some 3
 else if eqI op1 24 then
  some 3
 else if eqI op1 25 then
  some 3
 else if eqI op1 26 then
  some 3
 else if eqI op1 27 then
  some 3
 else if eqI op1 28 then
  some 3
 else if eqI op1 29 then
  some 3
 else if eqI op1 31 then
  some 3
 else if eqI op1 32 then
  some 3
 else if eqI op1 33 then
  some 3
 else if eqI op1 34 then
  some 3
 else if eqI op1 41 then
  some 4
 else if eqI op1 42 then
  some 4
 else if eqI op1 43 then
  some 4
 else if eqI op1 44 then
  some 4
 else if eqI op1 46 then
  some 4
 else if eqI op1 47 then
  some 4
 else if eqI op1 48 then
  some 4
 else if eqI op1 49 then
  some 4
 else if eqI op1 50 then
  some 4
 else if eqI op1 61 then
  some 5
 else if eqI op1 62 then
  some 5
 else if eqI op1 63 then
  some 5
 else if eqI op1 64 then
  some 5
 else if eqI op1 65 then
  some 5
 else if eqI op1 66 then
  some 5
 else if eqI op1 71 then
  some 6
 else if eqI op1 72 then
  some 6
 else if eqI op1 73 then
  some 6
 else if eqI op1 74 then
  some 6
 else if eqI op1 81 then
  some 7
 else if eqI op1 82 then
  some 7
 else if eqI op1 83 then
  some 7
 else if eqI op1 84 then
  some 7
 else if eqI op1 85 then
  some 7
 else if eqI op1 86 then
  some 7
 else if eqI op1 87 then
  some 7
 else if eqI op1 88 then
  some 7
 else
  some 0
def zBP(cat1:Int)(t2:zKr):Option Bool:=
 if (eqI cat1 5)&&((eqI t2.Op 43)||(eqI t2.Op 44)) then
  some true
 else
  (if !(eqI cat1 0) then
   (zDg t2.Op).bind fun v16=>
   some (eqI v16 cat1)
  else
   some false:Option Bool).bind fun b20=>
  some b20
def zD9(op1:Int):Option (zKo):=
 if eqI op1 13 then
  some (zKo.mk true false false)
 else if eqI op1 21 then
  some (zKo.mk true false false)
 else if eqI op1 32 then
  some (zKo.mk true false false)
 else if eqI op1 1 then
  some (zKo.mk false true false)
 else if eqI op1 12 then
  some (zKo.mk false true false)
 else if eqI op1 22 then
  some (zKo.mk false true false)
 else if eqI op1 25 then
  some (zKo.mk false true false)
 else if eqI op1 41 then
  some (zKo.mk false true false)
 else if eqI op1 45 then
  some (zKo.mk false true false)
 else if eqI op1 46 then
  some (zKo.mk false true false)
 else if eqI op1 47 then
  some (zKo.mk false true false)
 else if eqI op1 50 then
  some (zKo.mk false true false)
 else if eqI op1 61 then
  some (zKo.mk false true false)
 else if eqI op1 63 then
  some (zKo.mk false true false)
 else if eqI op1 64 then
  some (zKo.mk false true false)
 else if eqI op1 2 then
  some (zKo.mk false false true)
 else if eqI op1 5 then
  some (zKo.mk false false true)
 else if eqI op1 14 then
  some (zKo.mk false false true)
 else if eqI op1 23 then
  some (zKo.mk false false true)
 else if eqI op1 24 then
  some (zKo.mk false false true)
 else if eqI op1 34 then
  some (zKo.mk false false true)
 else if eqI op1 48 then
  some (zKo.mk false false true)
 else if eqI op1 49 then
  some (zKo.mk false false true)
 else if eqI op1 66 then
  some (zKo.mk false false true)
 else if eqI op1 72 then
  some (zKo.mk false false true)
 else if eqI op1 74 then
  some (zKo.mk false false true)
 else if eqI op1 82 then
  some (zKo.mk false false true)
 else if eqI op1 42 then
  some (zKo.mk false true true)
 else if eqI op1 43 then
  some (zKo.mk false true true)
 else if eqI op1 44 then
  some (zKo.mk false true true)
 else if eqI op1 62 then
  some (zKo.mk false true true)
 else if eqI op1 73 then
  some (zKo.mk true true false)
 else if eqI op1 83 then
  some (zKo.mk true true false)
 else
  some (zKo.mk false false false)
def zDO(s1:List UInt8)(prefix2:List UInt8):Option ((List UInt8)×Bool):=
 (zBf s1 prefix2).bind fun v3=>
 if !v3 then
  some (s1,false)
 else
  (subC s1 (prefix2.length:Int) (s1.length:Int)).bind fun s8=>
  some (s8,true)
def zDo(s1:List UInt8)(prefix2:List UInt8):Option ((List UInt8)×Bool):=
 (zDO s1 prefix2).bind fun v3=>
 some (v3.1,v3.2)
def zDY(l16:List UInt8):Nat->Nat->Option ((Bool) ⊕ (Unit))
 |0,_=>none
 |k25+1,i20=>
  if ltI i20 l16.length then
   (l16[i20]?).bind fun x29=>
   (zDh x29).bind fun v31=>
   if (eqI v31 0)||(eqI v31 5) then
    some (.inl false)
   else
    zDY l16 k25 (i20+1)
  else
   some (.inr ())
def zEJ(fuel:Nat)(s1:List UInt8)(first2:Int):Option Bool:=
 (if eqS s1 [] then
  some true
 else if ltI 24 s1.length then
  some true
 else
  (s1[0]?).bind fun c9=>
  (zDh c9).bind fun v11=>
  some (!(eqI v11 first2)):Option Bool).bind fun b13=>
 if b13 then
  some false
 else
  (zKi s1).bind fun l16=>
  (zDY l16 fuel 0).bind fun o=>Sum.elim some (fun o21=>
   some true) o
def zDt(fuel:Nat)(s1:List UInt8):Option Bool:=
 (zDo s1 [39]).bind fun v2=>
 (if v2.2 then
  if leI s1.length 24 then
   (zEJ fuel v2.1 1).bind fun v8=>
   some v8
  else
   some false
 else
  some false:Option Bool).bind fun b12=>
 some b12
def zB2(fuel:Nat)(s1:List UInt8):Option Bool:=
 (zEJ fuel s1 2).bind fun v2=>
 some v2
def zE2(fuel:Nat)(s1:List UInt8):Option Bool:=
 (zB2 fuel s1).bind fun v2=>
 some (!v2)
def zAw(fuel:Nat)(s1:(List (List UInt8))):Nat->Nat->Option ((Int) ⊕ (Unit))
 |0,_=>none
 |k7+1,i2=>
  if ltI i2 s1.length then
   (s1[i2]?).bind fun x11=>
   (zE2 fuel x11).bind fun v13=>
   if v13 then
    some (.inl ((i2:Nat):Int))
   else
    zAw fuel s1 k7 (i2+1)
  else
   some (.inr ())
def zCJ(fuel:Nat)(s1:(List (List UInt8))):Option Int:=
 (zAw fuel s1 fuel 0).bind fun o=>Sum.elim some (fun o3=>
  some (-1)) o
def zBx(fuel:Nat)(s1:(List (List UInt8))):Option Bool:=
 (zCJ fuel s1).bind fun v2=>
 some (leI 0 v2)
def zEk(s:List UInt8):Option (List (List UInt8)):=if s.length<4294967281∧s.all (fun c=>decide (c.toNat<128))=true∧(Lib.fields s).length<=100000∧(Lib.fields s).all (fun z=>decide (z.length<=100000))=true then some (Lib.fields s) else none
def zBs(s1:(List (List UInt8)))(v2:List UInt8):Nat->Nat->Option ((Int) ⊕ (Unit))
 |0,_=>none
 |k8+1,i3=>
  if ltI i3 s1.length then
   (s1[i3]?).bind fun x12=>
   if eqS v2 x12 then
    some (.inl ((i3:Nat):Int))
   else
    zBs s1 v2 k8 (i3+1)
  else
   some (.inr ())
def zDZ(fuel:Nat)(s1:(List (List UInt8)))(v2:List UInt8):Option Int:=
 (zBs s1 v2 fuel 0).bind fun o=>Sum.elim some (fun o4=>
  some (-1)) o
def zBb(fuel:Nat)(s1:(List (List UInt8)))(v2:List UInt8):Option Bool:=
 (zDZ fuel s1 v2).bind fun v3=>
 some (leI 0 v3)
def zF8(fuel:Nat)(s1:List UInt8):Option Bool:=
 (zEk [97,110,100,97,108,115,111,32,99,97,115,101,32,100,97,116,97,32,100,105,118,32,101,108,115,101,32,101,110,100,32,102,110,32,102,117,110,32,102,117,110,99,116,111,114,32,103,101,110,101,114,97,116,105,118,101,32,105,102,32,105,109,112,111,114,116,32,105,110,32,105,110,99,108,117,100,101,32,108,101,116,32,109,111,100,32,109,111,100,117,108,101,32,111,102,32,111,112,101,110,32,111,114,101,108,115,101,32,112,97,99,107,32,115,104,97,114,105,110,103,32,115,105,103,32,115,105,103,110,97,116,117,114,101,32,115,116,114,117,99,116,32,115,116,114,117,99,116,117,114,101,32,116,104,101,110,32,116,121,112,101,32,117,110,112,97,99,107,32,118,97,108,32,119,105,116,104]).bind fun v2=>
 (zBb fuel v2 s1).bind fun v4=>
 some v4
def zBp(fuel:Nat)(s1:List UInt8):Option Bool:=
 ((zEJ fuel s1 1).bind fun v2=>
 if v2 then
  (zF8 fuel s1).bind fun v5=>
  some (!v5)
 else
  some false:Option Bool).bind fun b7=>
 some b7
def zB3(fuel:Nat)(l1:(List (List UInt8)))(lower2:Bool):Option Bool:=
 if (ltI l1.length 1)||(ltI 8 l1.length) then
  some false
 else
  (subC l1 0 ((l1.length:Int)-1)).bind fun l15=>
  (zBx fuel l15).bind fun v19=>
  if v19 then
   some false
  else if lower2 then
   (idx l1 ((l1.length:Int)-1)).bind fun x23=>
   (zBp fuel x23).bind fun v27=>
   some v27
  else
   (idx l1 ((l1.length:Int)-1)).bind fun x30=>
   (zB2 fuel x30).bind fun v34=>
   some v34
def zCh(s1:List UInt8):Nat->Nat->Option ((Bool) ⊕ (Unit))
 |0,_=>none
 |k7+1,i2=>
  if ltI i2 s1.length then
   ((s1[i2]?).bind fun c11=>
   if !(eqI c11.toNat 10) then
    if ltI c11.toNat 32 then
     some true
    else
     some (ltI 126 c11.toNat)
   else
    some false:Option Bool).bind fun b21=>
   if b21 then
    some (.inl false)
   else
    zCh s1 k7 (i2+1)
  else
   some (.inr ())
def zEj(fuel:Nat)(s1:List UInt8):Option Bool:=
 (zCh s1 fuel 0).bind fun o=>Sum.elim some (fun o3=>
  some (leI s1.length 16384)) o
def zFI(fuel:Nat)(s1:List UInt8):Option Bool:=
 (zBp fuel s1).bind fun v2=>
 some (!v2)
def zAy(fuel:Nat)(s1:(List (List UInt8))):Nat->Nat->Option ((Int) ⊕ (Unit))
 |0,_=>none
 |k7+1,i2=>
  if ltI i2 s1.length then
   (s1[i2]?).bind fun x11=>
   (zFI fuel x11).bind fun v13=>
   if v13 then
    some (.inl ((i2:Nat):Int))
   else
    zAy fuel s1 k7 (i2+1)
  else
   some (.inr ())
def zCO(fuel:Nat)(s1:(List (List UInt8))):Option Int:=
 (zAy fuel s1 fuel 0).bind fun o=>Sum.elim some (fun o3=>
  some (-1)) o
def zBc(fuel:Nat)(s1:(List (List UInt8))):Option Bool:=
 (zCO fuel s1).bind fun v2=>
 some (leI 0 v2)
def zCq(fuel:Nat)(l1:(List (List UInt8))):Nat->Nat->Option ((Bool) ⊕ (Unit))
 |0,_=>none
 |k7+1,i2=>
  if ltI i2 l1.length then
   (l1[i2]?).bind fun x11=>
   ((zDt fuel x11).bind fun v13=>
   if !v13 then
    some true
   else
    (subC l1 0 ((i2:Nat):Int)).bind fun l18=>
    (zBb fuel l18 x11).bind fun v22=>
    some v22:Option Bool).bind fun b24=>
   if b24 then
    some (.inl false)
   else
    zCq fuel l1 k7 (i2+1)
  else
   some (.inr ())
def zDF(fuel:Nat)(l1:(List (List UInt8))):Option Bool:=
 (zCq fuel l1 fuel 0).bind fun o=>Sum.elim some (fun o3=>
  some (leI l1.length 4)) o
def zDW(fuel:Nat)(t1:zKr)(inWith2:Bool):Option Bool:=
 (zD9 t1.Op).bind fun v3=>
 if if !v3.n then (!(eqI t1.N 0))||(if !v3.s then (!(eqS t1.S []))||((!v3.names)&&(ltI 0 t1.Names.length)) else (!v3.names)&&(ltI 0 t1.Names.length)) else if !v3.s then (!(eqS t1.S []))||((!v3.names)&&(ltI 0 t1.Names.length)) else (!v3.names)&&(ltI 0 t1.Names.length) then
  some false
 else if eqI t1.Op 1 then
  (zDt fuel t1.S).bind fun v40=>
  some v40
 else if eqI t1.Op 2 then
  (zB3 fuel t1.Names true).bind fun v46=>
  some v46
 else if eqI t1.Op 23 then
  (zB3 fuel t1.Names true).bind fun v52=>
  some v52
 else if eqI t1.Op 66 then
  (zB3 fuel t1.Names true).bind fun v58=>
  some v58
 else if eqI t1.Op 74 then
  (zB3 fuel t1.Names true).bind fun v64=>
  some v64
 else if eqI t1.Op 5 then
  (zB3 fuel t1.Names false).bind fun v70=>
  some v70
 else if eqI t1.Op 14 then
  (zB3 fuel t1.Names false).bind fun v76=>
  some v76
 else if eqI t1.Op 24 then
  (zB3 fuel t1.Names false).bind fun v82=>
  some v82
 else if eqI t1.Op 34 then
  (zB3 fuel t1.Names false).bind fun v88=>
  some v88
 else if eqI t1.Op 48 then
  (zB3 fuel t1.Names false).bind fun v94=>
  some v94
 else if eqI t1.Op 49 then
  (zB3 fuel t1.Names false).bind fun v100=>
  some v100
 else if eqI t1.Op 72 then
  (zB3 fuel t1.Names false).bind fun v106=>
  some v106
 else if eqI t1.Op 82 then
  (zB3 fuel t1.Names false).bind fun v112=>
  some v112
 else if eqI t1.Op 12 then
  (zBp fuel t1.S).bind fun v118=>
  some v118
 else if eqI t1.Op 41 then
  (zBp fuel t1.S).bind fun v124=>
  some v124
 else if eqI t1.Op 61 then
  (zBp fuel t1.S).bind fun v130=>
  some v130
 else if eqI t1.Op 13 then
  some ((leI (-4503599627370496) t1.N)&&(leI t1.N 4503599627370496))
 else if eqI t1.Op 21 then
  some ((leI 0 t1.N)&&(leI t1.N 4503599627370496))
 else if eqI t1.Op 22 then
  (zEj fuel t1.S).bind fun v148=>
  some v148
 else if eqI t1.Op 25 then
  (if eqS t1.S [] then
   some true
  else
   (zBp fuel t1.S).bind fun v155=>
   some v155:Option Bool).bind fun b157=>
  some b157
 else if eqI t1.Op 32 then
  some ((leI 1 t1.N)&&(leI t1.N 12))
 else if eqI t1.Op 42 then
  ((zBp fuel t1.S).bind fun v169=>
  if v169 then
   if leI 1 t1.Names.length then
    if leI t1.Names.length 9 then
     (zBc fuel t1.Names).bind fun v177=>
     some (!v177)
    else
     some false
   else
    some false
  else
   some false:Option Bool).bind fun b182=>
  some b182
 else if eqI t1.Op 43 then
  (if inWith2 then
   if eqS t1.S [] then
    (zDF fuel t1.Names).bind fun v194=>
    some v194
   else
    some false
  else
   (zBp fuel t1.S).bind fun v196=>
   if v196 then
    (zDF fuel t1.Names).bind fun v199=>
    some v199
   else
    some false:Option Bool).bind fun b201=>
  some b201
 else if eqI t1.Op 44 then
  ((zBp fuel t1.S).bind fun v210=>
  if v210 then
   (zDF fuel t1.Names).bind fun v213=>
   some v213
  else
   some false:Option Bool).bind fun b215=>
  some b215
 else if eqI t1.Op 62 then
  ((zBp fuel t1.S).bind fun v223=>
  if v223 then
   (zDF fuel t1.Names).bind fun v226=>
   some v226
  else
   some false:Option Bool).bind fun b228=>
  some b228
 else if eqI t1.Op 45 then
  (zB2 fuel t1.S).bind fun v236=>
  some v236
 else if eqI t1.Op 46 then
  (zB2 fuel t1.S).bind fun v242=>
  some v242
 else if eqI t1.Op 47 then
  (zB2 fuel t1.S).bind fun v248=>
  some v248
 else if eqI t1.Op 50 then
  (zB2 fuel t1.S).bind fun v254=>
  some v254
 else if eqI t1.Op 63 then
  (zB2 fuel t1.S).bind fun v260=>
  some v260
 else if eqI t1.Op 64 then
  (zB2 fuel t1.S).bind fun v266=>
  some v266
 else if eqI t1.Op 73 then
  ((zB2 fuel t1.S).bind fun v272=>
  if v272 then
   if eqI t1.N 0 then
    some true
   else
    some (eqI t1.N 1)
  else
   some false:Option Bool).bind fun b278=>
  some b278
 else if eqI t1.Op 83 then
  ((zB2 fuel t1.S).bind fun v286=>
  if v286 then
   if eqI t1.N 0 then
    some true
   else
    some (eqI t1.N 1)
  else
   some false:Option Bool).bind fun b292=>
  some b292
 else
  some true
def zE3(x1:zKr)(c2:Int):Option Bool:=
 (zBP c2 x1).bind fun v3=>
 some (!v3)
def zAs(s1:List zKr)(c2:Int):Nat->Nat->Option ((Int) ⊕ (Unit))
 |0,_=>none
 |k8+1,i3=>
  if ltI i3 s1.length then
   (s1[i3]?).bind fun x12=>
   (zE3 x12 c2).bind fun v14=>
   if v14 then
    some (.inl ((i3:Nat):Int))
   else
    zAs s1 c2 k8 (i3+1)
  else
   some (.inr ())
def zCE(fuel:Nat)(s1:List zKr)(c2:Int):Option Int:=
 (zAs s1 c2 fuel 0).bind fun o=>Sum.elim some (fun o4=>
  some (-1)) o
def zA5(fuel:Nat)(s1:List zKr)(c2:Int):Option Bool:=
 (zCE fuel s1 c2).bind fun v3=>
 some (leI 0 v3)
def zCN(fuel:Nat)(l1:List zKr)(cat2:Int)(least3:Int)(most4:Int):Option Bool:=
 (if leI least3 l1.length then
  if leI l1.length most4 then
   (zA5 fuel l1 cat2).bind fun v10=>
   some (!v10)
  else
   some false
 else
  some false:Option Bool).bind fun b15=>
 some b15
def zCi(t1:zKr)(cats2:List Int):Nat->Nat->Option ((Bool) ⊕ (Unit))
 |0,_=>none
 |k13+1,i8=>
  if ltI i8 cats2.length then
   (cats2[i8]?).bind fun x17=>
   (t1.L[i8]?).bind fun x19=>
   (zBP x17 x19).bind fun v21=>
   if !v21 then
    some (.inl false)
   else
    zCi t1 cats2 k13 (i8+1)
  else
   some (.inr ())
def zAd(fuel:Nat)(t1:zKr)(cats2:List Int):Option Bool:=
 if !(eqI t1.L.length cats2.length) then
  some false
 else
  (zCi t1 cats2 fuel 0).bind fun o=>Sum.elim some (fun o9=>
   some true) o
def zCM(s1:List Int)(v2:Int):Nat->Nat->Option ((Int) ⊕ (Unit))
 |0,_=>none
 |k8+1,i3=>
  if ltI i3 s1.length then
   (s1[i3]?).bind fun x12=>
   if eqI v2 x12 then
    some (.inl ((i3:Nat):Int))
   else
    zCM s1 v2 k8 (i3+1)
  else
   some (.inr ())
def zDy(fuel:Nat)(s1:List Int)(v2:Int):Option Int:=
 (zCM s1 v2 fuel 0).bind fun o=>Sum.elim some (fun o4=>
  some (-1)) o
def zCg(fuel:Nat)(s1:List Int)(v2:Int):Option Bool:=
 (zDy fuel s1 v2).bind fun v3=>
 some (leI 0 v3)
def zD8(fuel:Nat)(x1:zKr)(c2:List Int):Option Bool:=
 (zCg fuel c2 x1.Op).bind fun v3=>
 some (!v3)
def zAr(fuel:Nat)(s1:List zKr)(c2:List Int):Nat->Nat->Option ((Int) ⊕ (Unit))
 |0,_=>none
 |k8+1,i3=>
  if ltI i3 s1.length then
   (s1[i3]?).bind fun x12=>
   (zD8 fuel x12 c2).bind fun v14=>
   if v14 then
    some (.inl ((i3:Nat):Int))
   else
    zAr fuel s1 c2 k8 (i3+1)
  else
   some (.inr ())
def zCD(fuel:Nat)(s1:List zKr)(c2:List Int):Option Int:=
 (zAr fuel s1 c2 fuel 0).bind fun o=>Sum.elim some (fun o4=>
  some (-1)) o
def zBQ(fuel:Nat)(s1:List zKr)(c2:List Int):Option Bool:=
 (zCD fuel s1 c2).bind fun v3=>
 some (leI 0 v3)
def zCW(fuel:Nat)(l1:List zKr)(ops2:List Int):Option Bool:=
 (zBQ fuel l1 ops2).bind fun v3=>
 some (!v3)
def zEE(y1:zKr)(w2:zKr):Option Bool:=
 some (eqS w2.S y1.S)
def zAp(s1:List zKr)(w2:zKr):Nat->Nat->Option ((Int) ⊕ (Unit))
 |0,_=>none
 |k8+1,i3=>
  if ltI i3 s1.length then
   (s1[i3]?).bind fun x12=>
   (zEE x12 w2).bind fun v14=>
   if v14 then
    some (.inl ((i3:Nat):Int))
   else
    zAp s1 w2 k8 (i3+1)
  else
   some (.inr ())
def zBw(fuel:Nat)(s1:List zKr)(w2:zKr):Option Int:=
 (zAp s1 w2 fuel 0).bind fun o=>Sum.elim some (fun o4=>
  some (-1)) o
def zAq(fuel:Nat)(s1:List zKr)(w2:zKr):Option Bool:=
 (zBw fuel s1 w2).bind fun v3=>
 some (leI 0 v3)
def zCr(fuel:Nat)(l1:List zKr):Nat->Nat->Option ((Bool) ⊕ (Unit))
 |0,_=>none
 |k7+1,i2=>
  if ltI i2 l1.length then
   (l1[i2]?).bind fun x11=>
   (subC l1 0 ((i2:Nat):Int)).bind fun l13=>
   (zAq fuel l13 x11).bind fun v17=>
   if v17 then
    some (.inl false)
   else
    zCr fuel l1 k7 (i2+1)
  else
   some (.inr ())
def zEA(fuel:Nat)(l1:List zKr):Option Bool:=
 (zCr fuel l1 fuel 0).bind fun o=>Sum.elim some (fun o3=>
  some true) o
def zCT(fuel:Nat)(t1:zKr):Option Bool:=
 if eqI t1.Op 1 then
  some (eqI t1.L.length 0)
 else if eqI t1.Op 5 then
  some (eqI t1.L.length 0)
 else if eqI t1.Op 11 then
  some (eqI t1.L.length 0)
 else if eqI t1.Op 12 then
  some (eqI t1.L.length 0)
 else if eqI t1.Op 13 then
  some (eqI t1.L.length 0)
 else if eqI t1.Op 21 then
  some (eqI t1.L.length 0)
 else if eqI t1.Op 22 then
  some (eqI t1.L.length 0)
 else if eqI t1.Op 23 then
  some (eqI t1.L.length 0)
 else if eqI t1.Op 24 then
  some (eqI t1.L.length 0)
 else if eqI t1.Op 48 then
  some (eqI t1.L.length 0)
 else if eqI t1.Op 49 then
  some (eqI t1.L.length 0)
 else if eqI t1.Op 62 then
  some (eqI t1.L.length 0)
 else if eqI t1.Op 72 then
  some (eqI t1.L.length 0)
 else if eqI t1.Op 82 then
  some (eqI t1.L.length 0)
 else if eqI t1.Op 2 then
  (zCN fuel t1.L 1 0 4).bind fun v46=>
  some v46
 else if eqI t1.Op 3 then
  (some [1,1]).bind fun l52=>
  (zAd fuel t1 l52).bind fun v56=>
  some v56
 else if eqI t1.Op 4 then
  (zCN fuel t1.L 1 2 9).bind fun v62=>
  some v62
 else if eqI t1.Op 14 then
  (zCN fuel t1.L 2 0 1).bind fun v68=>
  some v68
 else if eqI t1.Op 15 then
  (if !(eqI t1.L.length 1) then
   (zCN fuel t1.L 2 0 9).bind fun v77=>
   some v77
  else
   some false:Option Bool).bind fun b81=>
  some b81
 else if eqI t1.Op 25 then
  (zAd fuel t1 [3]).bind fun v87=>
  some v87
 else if eqI t1.Op 41 then
  (zAd fuel t1 [3]).bind fun v93=>
  some v93
 else if eqI t1.Op 42 then
  (zAd fuel t1 [3]).bind fun v99=>
  some v99
 else if eqI t1.Op 26 then
  (some [3,3]).bind fun l105=>
  (zAd fuel t1 l105).bind fun v109=>
  some v109
 else if eqI t1.Op 27 then
  (if !(eqI t1.L.length 1) then
   (zCN fuel t1.L 3 0 9).bind fun v118=>
   some v118
  else
   some false:Option Bool).bind fun b122=>
  some b122
 else if eqI t1.Op 28 then
  (some [3,3,3]).bind fun l128=>
  (zAd fuel t1 l128).bind fun v132=>
  some v132
 else if eqI t1.Op 29 then
  (if leI 2 t1.L.length then
   (t1.L[0]?).bind fun x141=>
   (zBP 3 x141).bind fun v143=>
   if v143 then
    (subC t1.L 1 (t1.L.length:Int)).bind fun l146=>
    (zCW fuel l146 [30]).bind fun v150=>
    some v150
   else
    some false
  else
   some false:Option Bool).bind fun b154=>
  some b154
 else if eqI t1.Op 30 then
  (some [2,3]).bind fun l162=>
  (zAd fuel t1 l162).bind fun v166=>
  some v166
 else if eqI t1.Op 31 then
  (if leI 1 t1.L.length then
   (idx t1.L ((t1.L.length:Int)-1)).bind fun x176=>
   (zBP 3 x176).bind fun v180=>
   if v180 then
    (subC t1.L 0 ((t1.L.length:Int)-1)).bind fun l184=>
    (some [41,42,50]).bind fun l188=>
    (zCW fuel l184 l188).bind fun v192=>
    some v192
   else
    some false
  else
   some false:Option Bool).bind fun b196=>
  some b196
 else if eqI t1.Op 32 then
  if eqI t1.N 12 then
   (zAd fuel t1 [3]).bind fun v206=>
   some v206
  else
   (some [3,3]).bind fun l210=>
   (zAd fuel t1 l210).bind fun v214=>
   some v214
 else if eqI t1.Op 33 then
  (some [3,1]).bind fun l220=>
  (zAd fuel t1 l220).bind fun v224=>
  some v224
 else if eqI t1.Op 34 then
  (if eqI t1.L.length 1 then
   (zCW fuel t1.L [72]).bind fun v232=>
   some v232
  else
   some false:Option Bool).bind fun b235=>
  some b235
 else if eqI t1.Op 43 then
  (zAd fuel t1 [1]).bind fun v241=>
  some v241
 else if eqI t1.Op 61 then
  (zAd fuel t1 [1]).bind fun v247=>
  some v247
 else if eqI t1.Op 44 then
  (if leI 1 t1.L.length then
   (zCW fuel t1.L [45]).bind fun v256=>
   if v256 then
    (zEA fuel t1.L).bind fun v259=>
    some v259
   else
    some false
  else
   some false:Option Bool).bind fun b263=>
  some b263
 else if eqI t1.Op 45 then
  (zCN fuel t1.L 1 0 1).bind fun v271=>
  some v271
 else if eqI t1.Op 46 then
  (zAd fuel t1 [7]).bind fun v277=>
  some v277
 else if eqI t1.Op 47 then
  (zAd fuel t1 [6]).bind fun v283=>
  some v283
 else if eqI t1.Op 63 then
  (zAd fuel t1 [6]).bind fun v289=>
  some v289
 else if eqI t1.Op 64 then
  (zAd fuel t1 [6]).bind fun v295=>
  some v295
 else if eqI t1.Op 65 then
  (zAd fuel t1 [6]).bind fun v301=>
  some v301
 else if eqI t1.Op 50 then
  (if eqI t1.L.length 2 then
   (t1.L[0]?).bind fun x309=>
   (zBP 3 x309).bind fun v311=>
   if v311 then
    (subC t1.L 1 (t1.L.length:Int)).bind fun l314=>
    (zCW fuel l314 [72]).bind fun v318=>
    some v318
   else
    some false
  else
   some false:Option Bool).bind fun b321=>
  some b321
 else if eqI t1.Op 88 then
  (if eqI t1.L.length 2 then
   (t1.L[0]?).bind fun x331=>
   (zBP 3 x331).bind fun v333=>
   if v333 then
    (subC t1.L 1 (t1.L.length:Int)).bind fun l336=>
    (zCW fuel l336 [72]).bind fun v340=>
    some v340
   else
    some false
  else
   some false:Option Bool).bind fun b343=>
  some b343
 else if eqI t1.Op 66 then
  (if eqI t1.L.length 1 then
   (zCW fuel t1.L [2]).bind fun v353=>
   if v353 then
    (t1.L[0]?).bind fun x356=>
    some (eqI x356.L.length 0)
   else
    some false
  else
   some false:Option Bool).bind fun b359=>
  some b359
 else if eqI t1.Op 71 then
  (zCN fuel t1.L 5 0 (t1.L.length:Int)).bind fun v366=>
  some v366
 else if eqI t1.Op 73 then
  (some [6,6]).bind fun l372=>
  (zAd fuel t1 l372).bind fun v376=>
  some v376
 else if eqI t1.Op 74 then
  (if eqI t1.L.length 2 then
   (t1.L[0]?).bind fun x384=>
   (zBP 6 x384).bind fun v386=>
   if v386 then
    (subC t1.L 1 (t1.L.length:Int)).bind fun l389=>
    (zCW fuel l389 [43]).bind fun v393=>
    some v393
   else
    some false
  else
   some false:Option Bool).bind fun b396=>
  some b396
 else if eqI t1.Op 81 then
  (zCN fuel t1.L 4 0 (t1.L.length:Int)).bind fun v404=>
  some v404
 else if eqI t1.Op 83 then
  (some [6,7]).bind fun l410=>
  (zAd fuel t1 l410).bind fun v414=>
  some v414
 else if eqI t1.Op 84 then
  (some [7,7]).bind fun l420=>
  (zAd fuel t1 l420).bind fun v424=>
  some v424
 else if eqI t1.Op 85 then
  (some [7,6]).bind fun l430=>
  (zAd fuel t1 l430).bind fun v434=>
  some v434
 else if eqI t1.Op 86 then
  (some [7,6]).bind fun l440=>
  (zAd fuel t1 l440).bind fun v444=>
  some v444
 else if eqI t1.Op 87 then
  (if leI 1 t1.L.length then
   (idx t1.L ((t1.L.length:Int)-1)).bind fun x454=>
   (zBP 7 x454).bind fun v458=>
   if v458 then
    (subC t1.L 0 ((t1.L.length:Int)-1)).bind fun l462=>
    (zCN fuel l462 4 0 (t1.L.length:Int)).bind fun v466=>
    some v466
   else
    some false
  else
   some false:Option Bool).bind fun b470=>
  some b470
 else
  some false
def zAY(F_syntax_formed_1_1:zKr->Int->zKr->Int->Option (Bool×Int))(s1:List zKr)(c2:Int)(w3:zKr):Nat->Int->Nat->Option ((Int×Int) ⊕ (Int))
 |0,_,_=>none
 |k11+1,a5,i6=>
  if ltI i6 s1.length then
   (s1[i6]?).bind fun x15=>
   (F_syntax_formed_1_1 x15 c2 w3 a5).bind fun v17=>
   if v17.1 then
    some (.inl (((i6:Nat):Int),v17.2))
   else
    zAY F_syntax_formed_1_1 s1 c2 w3 k11 v17.2 (i6+1)
  else
   some (.inr a5)
mutual
def zB7:Nat->zKr->Int->zKr->Int->Option (Bool×Int)
 |0,_,_,_,_=>none
 |fuel+1,x1,c2,w3,c4=>
  (chk .i64 (c2+1)).bind fun n5=>
  ((zBi fuel) x1 n5 (eqI w3.Op 74) c4).bind fun v10=>
  some (!v10.1,v10.2)
def zBL:Nat->(List zKr)->Int->zKr->Int->Option (Int×Int)
 |0,_,_,_,_=>none
 |fuel+1,s1,c2,w3,c4=>
  (zAY (zB7 fuel) s1 c2 w3 fuel c4 0).bind fun o=>Sum.elim some (fun o7=>
   some ((-1),o7)) o
def zBA:Nat->(List zKr)->Int->zKr->Int->Option (Bool×Int)
 |0,_,_,_,_=>none
 |fuel+1,s1,c2,w3,c4=>
  ((zBL fuel) s1 c2 w3 c4).bind fun v5=>
  some (leI 0 v5.1,v5.2)
def zBi:Nat->zKr->Int->Bool->Int->Option (Bool×Int)
 |0,_,_,_,_=>none
 |fuel+1,t1,depth2,inWith3,c4=>
  (chk .i64 (c4+1)).bind fun n5=>
  (if ltI 20000 n5 then
   some true
  else if ltI 400 depth2 then
   some true
  else
   (zDW fuel t1 inWith3).bind fun v16=>
   if !v16 then
    some true
   else
    (zCT fuel t1).bind fun v21=>
    some (!v21):Option Bool).bind fun b23=>
  if b23 then
   some (false,n5)
  else
   ((zBA fuel) t1.L depth2 t1 n5).bind fun v26=>
   some (!v26.1,v26.2)
end
def zE4(fuel:Nat)(t1:zKr):Option Bool:=
 (zBi fuel t1 1 false 0).bind fun v2=>
 some v2.1
def zCu(fuel:Nat)(cat1:Int)(t2:zKr):Option Bool:=
 ((zBP cat1 t2).bind fun v3=>
 if v3 then
  (zE4 fuel t2).bind fun v6=>
  some v6
 else
  some false:Option Bool).bind fun b8=>
 some b8
def zAb(fuel:Nat)(cat1:Int)(s2:List UInt8):Option (zKr×zKq×Int):=
 (zDV fuel s2).bind fun v3=>
 if !(eqI v3.2.2 0) then
  some ((zKr.mk 0 0 [] [] []),v3.2.1,v3.2.2)
 else
  (zCX fuel cat1 (zKm.mk v3.1 0)).bind fun v10=>
  (if !v10.2.1 then
   some true
  else
   (zAM 8 v10.2.2).bind fun v15=>
   some (!v15):Option Bool).bind fun b17=>
  if b17 then
   (idx v10.2.2.l v10.2.2.at_).bind fun x20=>
   (zB0 v10.2.2).bind fun v24=>
   some ((zKr.mk 0 0 [] [] []),x20.At,v24)
  else
   (zCu fuel cat1 v10.1).bind fun v27=>
   if !v27 then
    some ((zKr.mk 0 0 [] [] []),(zKq.mk 0 0),5)
   else
    some (v10.1,(zKq.mk 0 0),0)
def zAZ(fuel:Nat)(s1:List UInt8):Option (zKr×zKq×Int):=
 (zAb fuel 3 s1).bind fun v2=>
 some (v2.1,v2.2.1,v2.2.2)
def zFf(fuel:Nat):Option Bool:=
 (zAZ fuel [49,32,43,32,50,32,42,32,120]).bind fun v1=>
 (zAZ fuel [97,32,61,32,98,32,61,32,99]).bind fun v3=>
 (zAZ fuel [105,102,32,97,32,116,104,101,110,32,98]).bind fun v5=>
 (if eqI v1.2.2 0 then
  if eqI v1.1.Op 32 then
   if eqI v1.1.N 7 then
    if eqI v1.1.L.length 2 then
     (v1.1.L[1]?).bind fun x15=>
     if eqI x15.Op 32 then
      if eqI x15.N 9 then
       if eqI v3.2.2 3 then
        if (eqI v3.2.1.Line 1)&&(eqI v3.2.1.Column 7) then
         if eqI v5.2.2 4 then
          some ((eqI v5.2.1.Line 1)&&(eqI v5.2.1.Column 12))
         else
          some false
        else
         some false
       else
        some false
      else
       some false
     else
      some false
    else
     some false
   else
    some false
  else
   some false
 else
  some false:Option Bool).bind fun b34=>
 some b34
def zDG(F_ref03_Size:zKr->Option Int)(t1:zKr):Nat->Int->Nat->Option Int
 |0,_,_=>none
 |k7+1,n2,i3=>
  if ltI i3 t1.L.length then
   (t1.L[i3]?).bind fun x11=>
   (F_ref03_Size x11).bind fun v13=>
   (chk .i64 (n2+v13)).bind fun n15=>
   zDG F_ref03_Size t1 k7 n15 (i3+1)
  else
   some n2
def zBt:Nat->zKr->Option Int
 |0,_=>none
 |fuel+1,t1=>
  (zDG (zBt fuel) t1 fuel 1 0).bind fun o4=>
  some o4
def zCy(F_ref03_Depth:zKr->Option Int)(t1:zKr):Nat->Int->Nat->Option Int
 |0,_,_=>none
 |k7+1,n2,i3=>
  if ltI i3 t1.L.length then
   (t1.L[i3]?).bind fun x11=>
   (F_ref03_Depth x11).bind fun v13=>
   zCy F_ref03_Depth t1 k7 (maxI n2 v13) (i3+1)
  else
   some n2
def zBd:Nat->zKr->Option Int
 |0,_=>none
 |fuel+1,t1=>
  (zCy (zBd fuel) t1 fuel 0 0).bind fun o4=>
  (chk .i64 (o4+1)).bind fun n20=>
  some n20
def zEF:Option ((List (List UInt8))×(List Int)×(List Int)):=
 (some [[111,114,101,108,115,101],[97,110,100,97,108,115,111],[61],[60],[60,61],[94],[43],[45],[42],[100,105,118],[109,111,100]]).bind fun l1=>
 (some [1,2,3,4,5,6,7,8,9,10,11]).bind fun l5=>
 (some [1,2,3,3,3,4,5,5,6,6,6]).bind fun l9=>
 some (l1,l5,l9)
def zAG(n1:Int)(l2:List zKr):Option (zKr):=
 some (zKr.mk 32 n1 [] [] l2)
def zCw(F_ref03_Equal:zKr->zKr->Option Bool)(a1:zKr)(b2:zKr):Nat->Nat->Option ((Bool) ⊕ (Unit))
 |0,_=>none
 |k64+1,i59=>
  if ltI i59 a1.L.length then
   (a1.L[i59]?).bind fun x68=>
   (b2.L[i59]?).bind fun x70=>
   (F_ref03_Equal x68 x70).bind fun v72=>
   if !v72 then
    some (.inl false)
   else
    zCw F_ref03_Equal a1 b2 k64 (i59+1)
  else
   some (.inr ())
def zCx(a1:zKr)(b2:zKr):Nat->Nat->Option ((Bool) ⊕ (Unit))
 |0,_=>none
 |k44+1,i39=>
  if ltI i39 a1.Names.length then
   (a1.Names[i39]?).bind fun x48=>
   (b2.Names[i39]?).bind fun x50=>
   if !(eqS x48 x50) then
    some (.inl false)
   else
    zCx a1 b2 k44 (i39+1)
  else
   some (.inr ())
def zAx:Nat->zKr->zKr->Option Bool
 |0,_,_=>none
 |fuel+1,a1,b2=>
  if (!(eqI a1.Op b2.Op))||((!(eqI a1.N b2.N))||((!(eqS a1.S b2.S))||((!(eqI a1.Names.length b2.Names.length))||(!(eqI a1.L.length b2.L.length))))) then
   some false
  else
   (zCx a1 b2 fuel 0).bind fun o=>Sum.elim some (fun o40=>
    (zCw (zAx fuel) a1 b2 fuel 0).bind fun o=>Sum.elim some (fun o60=>
     some true) o) o
def zDs(fuel:Nat)(t1:zKr):Option Bool:=
 (zAx fuel t1 (zKr.mk 0 0 [] [] [])).bind fun v2=>
 some v2
def zBU(fuel:Nat)(a1:UInt8)(b2:UInt8)(s3:List UInt8)(t4:List UInt8)(u5:List UInt8):Option Bool:=
 (zFf fuel).bind fun v6=>
 if !v6 then
  some false
 else if (ltI 300 s3.length)||((ltI 300 t4.length)||(ltI 300 u5.length)) then
  some true
 else
  (zAZ fuel s3).bind fun v32=>
  (zAZ fuel t4).bind fun v34=>
  (zAZ fuel u5).bind fun v36=>
  (if !(eqI v32.2.2 0) then
   some true
  else if !(eqI v34.2.2 0) then
   some true
  else if !(eqI v36.2.2 0) then
   some true
  else
   (zBt fuel v32.1).bind fun v53=>
   (zBt fuel v34.1).bind fun v55=>
   (chk .i64 (v53+v55)).bind fun n57=>
   (zBt fuel v36.1).bind fun v62=>
   (chk .i64 (n57+v62)).bind fun n64=>
   if ltI 900 n64 then
    some true
   else
    (zBd fuel v32.1).bind fun v72=>
    (zBd fuel v34.1).bind fun v74=>
    (zBd fuel v36.1).bind fun v76=>
    some (ltI 150 (maxI (maxI v72 v74) v76)):Option Bool).bind fun b78=>
  if b78 then
   some true
  else
   (zEF).bind fun v81=>
   (modC .i64 (Int.tmod (a1.toNat:Int) (v81.1.length:Int)) (v81.1.length:Int)).bind fun n84=>
   (modC .i64 (Int.tmod (b2.toNat:Int) (v81.1.length:Int)) (v81.1.length:Int)).bind fun n89=>
   (cat [40] s3).bind fun s93=>
   (cat s93 [41,32]).bind fun s97=>
   (idx v81.1 n84).bind fun x101=>
   (cat s97 x101).bind fun s105=>
   (cat s105 [32,40]).bind fun s109=>
   (cat s109 t4).bind fun s113=>
   (cat s113 [41,32]).bind fun s117=>
   (idx v81.1 n89).bind fun x121=>
   (cat s117 x121).bind fun s125=>
   (cat s125 [32,40]).bind fun s129=>
   (cat s129 u5).bind fun s133=>
   (cat s133 [41]).bind fun s137=>
   (zAZ fuel s137).bind fun v141=>
   (idx v81.2.1 n89).bind fun x143=>
   (idx v81.2.1 n84).bind fun x147=>
   (zAG x147 [v32.1,v34.1]).bind fun v151=>
   (zAG x143 [v151,v36.1]).bind fun v153=>
   (zAG x143 [v34.1,v36.1]).bind fun v155=>
   (zAG x147 [v32.1,v155]).bind fun v157=>
   ((idx v81.2.2 n84).bind fun x159=>
   if eqI x159 3 then
    (idx v81.2.2 n89).bind fun x165=>
    some (eqI x165 3)
   else
    some false:Option Bool).bind fun b170=>
   if b170 then
    (if !(eqI v141.2.2 3) then
     some true
    else
     (zDs fuel v141.1).bind fun v178=>
     some (!v178):Option Bool).bind fun b180=>
    if b180 then
     some false
    else
     (cat [126,32,40] s3).bind fun s183=>
     (cat s183 [41,32,40]).bind fun s187=>
     (cat s187 t4).bind fun s191=>
     (cat s191 [41,32]).bind fun s195=>
     (cat s195 x101).bind fun s199=>
     (cat s199 [32,126,32,126,32,40]).bind fun s203=>
     (cat s203 u5).bind fun s207=>
     (cat s207 [41]).bind fun s211=>
     (zAZ fuel s211).bind fun v215=>
     (if eqI v215.2.2 0 then
      (zAG 12 [(zKr.mk 26 0 [] [] [v32.1,v34.1])]).bind fun v219=>
      (zAG 12 [v36.1]).bind fun v221=>
      (zAG 12 [v221]).bind fun v223=>
      (zAG x147 [v219,v223]).bind fun v225=>
      (zAx fuel v215.1 v225).bind fun v227=>
      some v227
     else
      some false:Option Bool).bind fun b230=>
     some b230
   else
    ((idx v81.2.2 n84).bind fun x239=>
    (idx v81.2.2 n89).bind fun x243=>
    if ltI x243 x239 then
     some true
    else if eqI x239 x243 then
     some (leI 5 x239)
    else
     some false:Option Bool).bind fun b253=>
    if b253 then
     (if !(eqI v141.2.2 0) then
      some true
     else
      (zAx fuel v141.1 v153).bind fun v261=>
      some (!v261):Option Bool).bind fun b263=>
     if b263 then
      some false
     else
      (cat [126,32,40] s3).bind fun s266=>
      (cat s266 [41,32,40]).bind fun s270=>
      (cat s270 t4).bind fun s274=>
      (cat s274 [41,32]).bind fun s278=>
      (cat s278 x101).bind fun s282=>
      (cat s282 [32,126,32,126,32,40]).bind fun s286=>
      (cat s286 u5).bind fun s290=>
      (cat s290 [41]).bind fun s294=>
      (zAZ fuel s294).bind fun v298=>
      (if eqI v298.2.2 0 then
       (zAG 12 [(zKr.mk 26 0 [] [] [v32.1,v34.1])]).bind fun v302=>
       (zAG 12 [v36.1]).bind fun v304=>
       (zAG 12 [v304]).bind fun v306=>
       (zAG x147 [v302,v306]).bind fun v308=>
       (zAx fuel v298.1 v308).bind fun v310=>
       some v310
      else
       some false:Option Bool).bind fun b313=>
      some b313
    else
     (if !(eqI v141.2.2 0) then
      some true
     else
      (zAx fuel v141.1 v157).bind fun v327=>
      some (!v327):Option Bool).bind fun b329=>
     if b329 then
      some false
     else
      (cat [126,32,40] s3).bind fun s332=>
      (cat s332 [41,32,40]).bind fun s336=>
      (cat s336 t4).bind fun s340=>
      (cat s340 [41,32]).bind fun s344=>
      (cat s344 x101).bind fun s348=>
      (cat s348 [32,126,32,126,32,40]).bind fun s352=>
      (cat s352 u5).bind fun s356=>
      (cat s356 [41]).bind fun s360=>
      (zAZ fuel s360).bind fun v364=>
      (if eqI v364.2.2 0 then
       (zAG 12 [(zKr.mk 26 0 [] [] [v32.1,v34.1])]).bind fun v368=>
       (zAG 12 [v36.1]).bind fun v370=>
       (zAG 12 [v370]).bind fun v372=>
       (zAG x147 [v368,v372]).bind fun v374=>
       (zAx fuel v364.1 v374).bind fun v376=>
       some v376
      else
       some false:Option Bool).bind fun b379=>
      some b379
def zDC(s1:List UInt8)(b2:List UInt8):Option (Int×(List UInt8)):=
 (zCL b2).bind fun v3=>
 (app 1 b2 s1).bind fun l5=>
 some ((s1.length:Int),l5)
def zDa(s1:List UInt8):Nat->(List UInt8)->Nat->Option (((List UInt8)×Int) ⊕ ((List UInt8)))
 |0,_,_=>none
 |k15+1,buf9,i10=>
  if ltI i10 s1.length then
   (s1[i10]?).bind fun c18=>
   if eqI c18.toNat 10 then
    (zDC [92,110] buf9).bind fun v22=>
    zDa s1 k15 v22.2 (i10+1)
   else
    (zDk c18).bind fun v27=>
    if !v27 then
     some (.inl ([],3))
    else if (eqI c18.toNat 34)||(eqI c18.toNat 92) then
     (zAl (92:UInt8) buf9).bind fun v36=>
     (zAl c18 v36).bind fun v38=>
     zDa s1 k15 v38 (i10+1)
    else
     (zAl c18 buf9).bind fun v47=>
     zDa s1 k15 v47 (i10+1)
  else
   some (.inr buf9)
end Go.Proofs.YtcbjbgiboimgaaaGreatDoor
