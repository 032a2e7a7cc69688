/- PatternForms: for every input the law returns true. Part 8 of 18. No condition. -/
import Derived.Test.YtipodehgjknelaaGreatDoorPFg
import Derived.Lib.Bytealg
import Derived.Lib.Join
import Derived.Lib.Fields
import Derived.Lib.ItoaNum
set_option linter.unusedVariables false
set_option linter.unnecessarySimpa false
set_option linter.unusedSimpArgs false
set_option maxRecDepth 100000
set_option maxHeartbeats 1000000
namespace Go.Proofs.YtipodehgjknelaaGreatDoor
open Go Go.Abs
def zDl : Option Bool := some true
def zBF (F_law20_big_1 : zGr → Int → Int → Option (Int)) (p1 : zGr) (depth2 : Int) : Nat → Int → Nat → Option (Int)
 | 0, _, _ => none
 | k23 + 1, a18, i19 =>
  if (ltI ((i19 : Nat) : Int) (p1.L.length : Int)) && (leI a18 200) then
   (p1.L[i19]?).bind fun x35 =>
   (chk .i64 (depth2 + 1)).bind fun n37 =>
   (F_law20_big_1 x35 n37 a18).bind fun v42 =>
   zBF F_law20_big_1 p1 depth2 k23 v42 (i19 + 1)
  else
   some a18
def zAv (F_law20_big_1 : zGr → Int → Int → Option (Int)) (p1 : zGr) (depth2 : Int) : Nat → Int → Nat → Option (Int)
 | 0, _, _ => none
 | k61 + 1, a56, i57 =>
  if (ltI ((i57 : Nat) : Int) (p1.L.length : Int)) && (leI a56 200) then
   (p1.L[i57]?).bind fun x70 =>
   (chk .i64 (depth2 + 1)).bind fun n72 =>
   (F_law20_big_1 x70 n72 a56).bind fun v77 =>
   zAv F_law20_big_1 p1 depth2 k61 v77 (i57 + 1)
  else
   some a56
def zAn : Nat → zGr → Int → Int → Option (Int)
 | 0, _, _, _ => none
 | fuel + 1, p1, depth2, c3 =>
  (chk .i64 (c3 + 1)).bind fun n4 =>
  if (ltI 50 depth2) || ((ltI 20 (p1.L.length : Int)) || (ltI 200 (p1.S.length : Int))) then
   (zBF (zAn fuel) p1 depth2 fuel 1000 0).bind fun o20 =>
   some o20
  else
   (zAv (zAn fuel) p1 depth2 fuel n4 0).bind fun o58 =>
   some o58
def zCT (fuel : Nat) (p1 : zGr) : Option (Bool) :=
 (zAn fuel p1 1 0).bind fun v2 =>
 some (ltI 200 v2)
def zBU (c1 : UInt8) : Option (Bool) :=
 some ((leI 97 (c1.toNat : Int)) && (leI (c1.toNat : Int) 122))
def zBB (c1 : UInt8) : Option (Bool) :=
 some ((leI 65 (c1.toNat : Int)) && (leI (c1.toNat : Int) 90))
def zDk (c1 : UInt8) : Option (Bool) :=
 some ((leI 48 (c1.toNat : Int)) && (leI (c1.toNat : Int) 57))
def zBq (c1 : UInt8) : Option (Bool) :=
 ((zBU c1).bind fun v2 =>
 if v2 then
  some true
 else
  (zBB c1).bind fun v5 =>
  if v5 then
   some true
  else
   (zDk c1).bind fun v8 =>
   if v8 then
    some true
   else
    some (eqI (c1.toNat : Int) 95) : Option Bool).bind fun b11 =>
 some b11
def zAu (s1 : (List UInt8)) : Nat → Nat → Option ((Bool) ⊕ (Unit))
 | 0, _ => none
 | k7 + 1, i2 =>
  if ltI ((i2 : Nat) : Int) (s1.length : Int) then
   (s1[i2]?).bind fun c11 =>
   (zBq c11).bind fun v13 =>
   if !v13 then
    some (.inl false)
   else
    zAu s1 k7 (i2 + 1)
  else
   some (.inr ())
def zCK (fuel : Nat) (s1 : (List UInt8)) : Option (Bool) :=
 (zAu s1 fuel 0).bind fun o => Sum.elim some (fun o3 =>
  some true) o
def zCD (fuel : Nat) (s1 : (List UInt8)) : Option (Bool) :=
 (if leI 1 (s1.length : Int) then
  if leI (s1.length : Int) 24 then
   (zCK fuel s1).bind fun v7 =>
   some v7
  else
   some false
 else
  some false : Option Bool).bind fun b12 =>
 some b12
def zCf : Option ((List (List UInt8))) :=
 (some [[97, 110, 100, 97, 108, 115, 111], [99, 97, 115, 101], [100, 97, 116, 97], [100, 105, 118], [101, 108, 115, 101], [101, 110, 100], [102, 110], [102, 117, 110], [102, 117, 110, 99, 116, 111, 114], [103, 101, 110, 101, 114, 97, 116, 105, 118, 101], [105, 102], [105, 109, 112, 111, 114, 116], [105, 110], [105, 110, 99, 108, 117, 100, 101], [108, 101, 116], [109, 111, 100], [109, 111, 100, 117, 108, 101], [111, 102], [111, 112, 101, 110], [111, 114, 101, 108, 115, 101], [112, 97, 99, 107], [115, 104, 97, 114, 105, 110, 103], [115, 105, 103], [115, 105, 103, 110, 97, 116, 117, 114, 101], [115, 116, 114, 117, 99, 116], [115, 116, 114, 117, 99, 116, 117, 114, 101], [116, 104, 101, 110], [116, 121, 112, 101], [117, 110, 112, 97, 99, 107], [118, 97, 108], [119, 105, 116, 104]]).bind fun l1 =>
 some l1
def zA0 (l1 : (List (List UInt8))) (s2 : (List UInt8)) : Nat → Nat → Option ((Int) ⊕ (Unit))
 | 0, _ => none
 | k8 + 1, i3 =>
  if ltI ((i3 : Nat) : Int) (l1.length : Int) then
   (l1[i3]?).bind fun x12 =>
   if eqS x12 s2 then
    some (.inl ((i3 : Nat) : Int))
   else
    zA0 l1 s2 k8 (i3 + 1)
  else
   some (.inr ())
def zCE (fuel : Nat) (l1 : (List (List UInt8))) (s2 : (List UInt8)) : Option (Int) :=
 (zA0 l1 s2 fuel 0).bind fun o => Sum.elim some (fun o4 =>
  some (-1)) o
def zBc (fuel : Nat) (s1 : (List UInt8)) : Option (Bool) :=
 ((zCD fuel s1).bind fun v2 =>
 if v2 then
  (s1[0]?).bind fun c5 =>
  (zBU c5).bind fun v7 =>
  if v7 then
   (zCf).bind fun v10 =>
   (zCE fuel v10 s1).bind fun v12 =>
   some (ltI v12 0)
  else
   some false
 else
  some false : Option Bool).bind fun b14 =>
 some b14
def zBb (fuel : Nat) (s1 : (List UInt8)) : Option (Bool) :=
 ((zCD fuel s1).bind fun v2 =>
 if v2 then
  (s1[0]?).bind fun c5 =>
  (zBB c5).bind fun v7 =>
  some v7
 else
  some false : Option Bool).bind fun b9 =>
 some b9
def zCe (fuel : Nat) (p1 : zGr) : Option (Bool) :=
 if if !(eqI p1.N 0) then (!(eqI p1.Op 3)) || ((!(eqS p1.S ([] : List UInt8))) && ((!(eqI p1.Op 2)) && (!(eqI p1.Op 4)))) else (!(eqS p1.S ([] : List UInt8))) && ((!(eqI p1.Op 2)) && (!(eqI p1.Op 4))) then
  some false
 else if eqI p1.Op 1 then
  some (eqI (p1.L.length : Int) 0)
 else if eqI p1.Op 2 then
  ((zBc fuel p1.S).bind fun v34 =>
  if v34 then
   some (eqI (p1.L.length : Int) 0)
  else
   some false : Option Bool).bind fun b37 =>
  some b37
 else if eqI p1.Op 3 then
  some ((leI (-4503599627370496) p1.N) && ((leI p1.N 4503599627370496) && (eqI (p1.L.length : Int) 0)))
 else if eqI p1.Op 4 then
  ((zBb fuel p1.S).bind fun v53 =>
  if v53 then
   some (leI (p1.L.length : Int) 1)
  else
   some false : Option Bool).bind fun b56 =>
  some b56
 else if eqI p1.Op 5 then
  some ((!(eqI (p1.L.length : Int) 1)) && (leI (p1.L.length : Int) 9))
 else
  some false
def zAj (F_ref20_count : zGr → Int → Int → Option (Int)) (p1 : zGr) (depth3 : Int) : Nat → Int → Nat → Option (Int)
 | 0, _, _ => none
 | k25 + 1, left20, i21 =>
  if (ltI ((i21 : Nat) : Int) (p1.L.length : Int)) && (leI 0 left20) then
   (p1.L[i21]?).bind fun x37 =>
   (chk .i64 (depth3 - 1)).bind fun n39 =>
   (F_ref20_count x37 left20 n39).bind fun v44 =>
   zAj F_ref20_count p1 depth3 k25 v44 (i21 + 1)
  else
   some left20
def zAy : Nat → zGr → Int → Int → Option (Int)
 | 0, _, _, _ => none
 | fuel + 1, p1, left2, depth3 =>
  (if ltI left2 1 then
   some true
  else if ltI depth3 1 then
   some true
  else
   (zCe fuel p1).bind fun v10 =>
   some (!v10) : Option Bool).bind fun b12 =>
  if b12 then
   some (-1)
  else
   (chk .i64 (left2 - 1)).bind fun n15 =>
   (zAj (zAy fuel) p1 depth3 fuel n15 0).bind fun o22 =>
   some o22
def zAx (F_ref20_vars : (List (List UInt8)) → zGr → Option ((List (List UInt8)))) (p2 : zGr) : Nat → (List (List UInt8)) → Nat → Option ((List (List UInt8)))
 | 0, _, _ => none
 | k20 + 1, l15, i16 =>
  if ltI ((i16 : Nat) : Int) (p2.L.length : Int) then
   (p2.L[i16]?).bind fun x24 =>
   (F_ref20_vars l15 x24).bind fun v26 =>
   zAx F_ref20_vars p2 k20 v26 (i16 + 1)
  else
   some l15
def zA4 : Nat → (List (List UInt8)) → zGr → Option ((List (List UInt8)))
 | 0, _, _ => none
 | fuel + 1, l1, p2 =>
  if eqI p2.Op 2 then
   (app 16 ([] : List (List UInt8)) l1).bind fun l5 =>
   (app 16 l5 [p2.S]).bind fun l9 =>
   some l9
  else
   (zAx (zA4 fuel) p2 fuel l1 0).bind fun o17 =>
   some o17
def zBl (fuel : Nat) (p1 : zGr) : Option ((List (List UInt8))) :=
 (zA4 fuel ([] : List (List UInt8)) p1).bind fun v2 =>
 some v2
def zAt (fuel : Nat) (v7 : (List (List UInt8))) : Nat → Nat → Option ((Bool) ⊕ (Unit))
 | 0, _ => none
 | k14 + 1, i9 =>
  if ltI ((i9 : Nat) : Int) (v7.length : Int) then
   (subC v7 0 ((i9 : Nat) : Int)).bind fun l18 =>
   (v7[i9]?).bind fun x22 =>
   (zCE fuel l18 x22).bind fun v24 =>
   if leI 0 v24 then
    some (.inl false)
   else
    zAt fuel v7 k14 (i9 + 1)
  else
   some (.inr ())
def zBp (fuel : Nat) (p1 : zGr) : Option (Bool) :=
 (zAy fuel p1 20000 400).bind fun v2 =>
 if ltI v2 0 then
  some false
 else
  (zBl fuel p1).bind fun v7 =>
  (zAt fuel v7 fuel 0).bind fun o => Sum.elim some (fun o10 =>
   some true) o
def zCL (c1 : UInt8) : Option (Int) :=
 if (leI 97 (c1.toNat : Int)) && (leI (c1.toNat : Int) 122) then
  some 1
 else if (leI 65 (c1.toNat : Int)) && (leI (c1.toNat : Int) 90) then
  some 2
 else if (leI 48 (c1.toNat : Int)) && (leI (c1.toNat : Int) 57) then
  some 3
 else if eqI (c1.toNat : Int) 95 then
  some 4
 else if eqI (c1.toNat : Int) 46 then
  some 5
 else
  some 0
def zA2 (l16 : (List UInt8)) : Nat → Nat → Option ((Bool) ⊕ (Unit))
 | 0, _ => none
 | k25 + 1, i20 =>
  if ltI ((i20 : Nat) : Int) (l16.length : Int) then
   (l16[i20]?).bind fun x29 =>
   (zCL x29).bind fun v31 =>
   if (eqI v31 0) || (eqI v31 5) then
    some (.inl false)
   else
    zA2 l16 k25 (i20 + 1)
  else
   some (.inr ())
def zBV (fuel : Nat) (s1 : (List UInt8)) (first2 : Int) : Option (Bool) :=
 (if eqS s1 ([] : List UInt8) then
  some true
 else if ltI 24 (s1.length : Int) then
  some true
 else
  (s1[0]?).bind fun c9 =>
  (zCL c9).bind fun v11 =>
  some (!(eqI v11 first2)) : Option Bool).bind fun b13 =>
 if b13 then
  some false
 else
  (bytesC s1).bind fun l16 =>
  (zA2 l16 fuel 0).bind fun o => Sum.elim some (fun o21 =>
   some true) o
def zBE (s : List UInt8) : Option (List (List UInt8)) := if s.length < 4294967281 ∧ s.all (fun c => decide (c.toNat < 128)) = true ∧ (Lib.fields s).length ≤ 100000 ∧ (Lib.fields s).all (fun z => decide (z.length ≤ 100000)) = true then some (Lib.fields s) else none
def zAS (s1 : (List (List UInt8))) (v2 : (List UInt8)) : Nat → Nat → Option ((Int) ⊕ (Unit))
 | 0, _ => none
 | k8 + 1, i3 =>
  if ltI ((i3 : Nat) : Int) (s1.length : Int) then
   (s1[i3]?).bind fun x12 =>
   if eqS v2 x12 then
    some (.inl ((i3 : Nat) : Int))
   else
    zAS s1 v2 k8 (i3 + 1)
  else
   some (.inr ())
def zBC (fuel : Nat) (s1 : (List (List UInt8))) (v2 : (List UInt8)) : Option (Int) :=
 (zAS s1 v2 fuel 0).bind fun o => Sum.elim some (fun o4 =>
  some (-1)) o
def zAb (fuel : Nat) (s1 : (List (List UInt8))) (v2 : (List UInt8)) : Option (Bool) :=
 (zBC fuel s1 v2).bind fun v3 =>
 some (leI 0 v3)
def zCg (fuel : Nat) (s1 : (List UInt8)) : Option (Bool) :=
 (zBE [97, 110, 100, 97, 108, 115, 111, 32, 99, 97, 115, 101, 32, 100, 97, 116, 97, 32, 100, 105, 118, 32, 101, 108, 115, 101, 32, 101, 110, 100, 32, 102, 110, 32, 102, 117, 110, 32, 102, 117, 110, 99, 116, 111, 114, 32, 103, 101, 110, 101, 114, 97, 116, 105, 118, 101, 32, 105, 102, 32, 105, 109, 112, 111, 114, 116, 32, 105, 110, 32, 105, 110, 99, 108, 117, 100, 101, 32, 108, 101, 116, 32, 109, 111, 100, 32, 109, 111, 100, 117, 108, 101, 32, 111, 102, 32, 111, 112, 101, 110, 32, 111, 114, 101, 108, 115, 101, 32, 112, 97, 99, 107, 32, 115, 104, 97, 114, 105, 110, 103, 32, 115, 105, 103, 32, 115, 105, 103, 110, 97, 116, 117, 114, 101, 32, 115, 116, 114, 117, 99, 116, 32, 115, 116, 114, 117, 99, 116, 117, 114, 101, 32, 116, 104, 101, 110, 32, 116, 121, 112, 101, 32, 117, 110, 112, 97, 99, 107, 32, 118, 97, 108, 32, 119, 105, 116, 104]).bind fun v2 =>
 (zAb fuel v2 s1).bind fun v4 =>
 some v4
def zBe (fuel : Nat) (s1 : (List UInt8)) : Option (Bool) :=
 ((zBV fuel s1 1).bind fun v2 =>
 if v2 then
  (zCg fuel s1).bind fun v5 =>
  some (!v5)
 else
  some false : Option Bool).bind fun b7 =>
 some b7
def zBd (fuel : Nat) (s1 : (List UInt8)) : Option (Bool) :=
 (zBV fuel s1 2).bind fun v2 =>
 some v2
def zBy (fuel : Nat) (p1 : zGr) : Option (Bool) :=
 if eqI p1.Op 1 then
  some ((eqI (p1.L.length : Int) 0) && ((eqI p1.N 0) && (eqS p1.S ([] : List UInt8))))
 else if eqI p1.Op 2 then
  (if eqI (p1.L.length : Int) 0 then
   if eqI p1.N 0 then
    (zBe fuel p1.S).bind fun v17 =>
    some v17
   else
    some false
  else
   some false : Option Bool).bind fun b21 =>
  some b21
 else if eqI p1.Op 3 then
  some ((eqI (p1.L.length : Int) 0) && ((eqS p1.S ([] : List UInt8)) && ((leI (-4503599627370496) p1.N) && (leI p1.N 4503599627370496))))
 else if eqI p1.Op 4 then
  (if leI (p1.L.length : Int) 1 then
   if eqI p1.N 0 then
    (zBd fuel p1.S).bind fun v42 =>
    some v42
   else
    some false
  else
   some false : Option Bool).bind fun b47 =>
  some b47
 else if eqI p1.Op 5 then
  some ((!(eqI (p1.L.length : Int) 1)) && ((leI (p1.L.length : Int) 9) && ((eqI p1.N 0) && (eqS p1.S ([] : List UInt8)))))
 else
  some false
def zAY (F_pattern_measure : zGr → Int → Int → Option (Int × Bool)) (p1 : zGr) (left2 : Int) (depth3 : Int) : Nat → Int → Nat → Option ((Int × Bool) ⊕ (Int))
 | 0, _, _ => none
 | k21 + 1, n15, i16 =>
  if ltI ((i16 : Nat) : Int) (p1.L.length : Int) then
   (p1.L[i16]?).bind fun x25 =>
   (chk .i64 (left2 - n15)).bind fun n27 =>
   (chk .i64 (depth3 + 1)).bind fun n32 =>
   (F_pattern_measure x25 n27 n32).bind fun v37 =>
   if !v37.2 then
    some (.inl (0, false))
   else
    (chk .i64 (n15 + v37.1)).bind fun n42 =>
    zAY F_pattern_measure p1 left2 depth3 k21 n42 (i16 + 1)
  else
   some (.inr n15)
def zAZ : Nat → zGr → Int → Int → Option (Int × Bool)
 | 0, _, _, _ => none
 | fuel + 1, p1, left2, depth3 =>
  (if leI left2 0 then
   some true
  else if ltI 400 depth3 then
   some true
  else
   (zBy fuel p1).bind fun v10 =>
   some (!v10) : Option Bool).bind fun b12 =>
  if b12 then
   some (0, false)
  else
   (zAY (zAZ fuel) p1 left2 depth3 fuel 1 0).bind fun o => Sum.elim some (fun o17 =>
    some (o17, true)) o
def zBg (name1 : (List UInt8)) (c2 : Bool) (c3 : (List (List UInt8 × Bool))) : Option (Bool × (List (List UInt8 × Bool))) :=
 some (c2 && (!(mgetD c3 name1 false)), mput c3 name1 true)
def zAI (F_pattern_variables_Valid_1 : zGr → Bool → (List (List UInt8 × Bool)) → Option (Bool × (List (List UInt8 × Bool)))) (p1 : zGr) : Nat → Bool → (List (List UInt8 × Bool)) → Nat → Option (Bool × (List (List UInt8 × Bool)))
 | 0, _, _, _ => none
 | k14 + 1, a8, a9, i10 =>
  if ltI ((i10 : Nat) : Int) (p1.L.length : Int) then
   (p1.L[i10]?).bind fun x18 =>
   (F_pattern_variables_Valid_1 x18 a8 a9).bind fun v20 =>
   zAI F_pattern_variables_Valid_1 p1 k14 v20.1 v20.2 (i10 + 1)
  else
   some (a8, a9)
def zAM (F_pattern_variables_Valid_1 : zGr → Bool → (List (List UInt8 × Bool)) → Option (Bool × (List (List UInt8 × Bool)))) (p1 : zGr) : Nat → Bool → (List (List UInt8 × Bool)) → Nat → Option (Bool × (List (List UInt8 × Bool)))
 | 0, _, _, _ => none
 | k37 + 1, a31, a32, i33 =>
  if ltI ((i33 : Nat) : Int) (p1.L.length : Int) then
   (p1.L[i33]?).bind fun x41 =>
   (F_pattern_variables_Valid_1 x41 a31 a32).bind fun v43 =>
   zAM F_pattern_variables_Valid_1 p1 k37 v43.1 v43.2 (i33 + 1)
  else
   some (a31, a32)
def zAC : Nat → zGr → Bool → (List (List UInt8 × Bool)) → Option (Bool × (List (List UInt8 × Bool)))
 | 0, _, _, _ => none
 | fuel + 1, p1, c2, c3 =>
  if eqI p1.Op 2 then
   (zBg p1.S c2 c3).bind fun v6 =>
   (zAI (zAC fuel) p1 fuel v6.1 v6.2 0).bind fun o11 =>
   some (o11.1, o11.2)
  else
   (zAM (zAC fuel) p1 fuel c2 c3 0).bind fun o34 =>
   some (o34.1, o34.2)
def zAs (fuel : Nat) (p1 : zGr) : Option (Bool) :=
 (zAZ fuel p1 20000 1).bind fun v2 =>
 if !v2.2 then
  some false
 else
  (zAC fuel p1 true ([] : List (List UInt8 × Bool))).bind fun v7 =>
  some v7.1
def zBz (name1 : (List UInt8)) (c2 : (List (List UInt8))) : Option ((List (List UInt8))) :=
 (app 16 c2 [name1]).bind fun l3 =>
 some l3
def zAP (F_pattern_variables_Vars_1 : zGr → (List (List UInt8)) → Option ((List (List UInt8)))) (p1 : zGr) : Nat → (List (List UInt8)) → Nat → Option ((List (List UInt8)))
 | 0, _, _ => none
 | k12 + 1, a7, i8 =>
  if ltI ((i8 : Nat) : Int) (p1.L.length : Int) then
   (p1.L[i8]?).bind fun x16 =>
   (F_pattern_variables_Vars_1 x16 a7).bind fun v18 =>
   zAP F_pattern_variables_Vars_1 p1 k12 v18 (i8 + 1)
  else
   some a7
def zAO (F_pattern_variables_Vars_1 : zGr → (List (List UInt8)) → Option ((List (List UInt8)))) (p1 : zGr) : Nat → (List (List UInt8)) → Nat → Option ((List (List UInt8)))
 | 0, _, _ => none
 | k32 + 1, a27, i28 =>
  if ltI ((i28 : Nat) : Int) (p1.L.length : Int) then
   (p1.L[i28]?).bind fun x36 =>
   (F_pattern_variables_Vars_1 x36 a27).bind fun v38 =>
   zAO F_pattern_variables_Vars_1 p1 k32 v38 (i28 + 1)
  else
   some a27
def zAD : Nat → zGr → (List (List UInt8)) → Option ((List (List UInt8)))
 | 0, _, _ => none
 | fuel + 1, p1, c2 =>
  if eqI p1.Op 2 then
   (zBz p1.S c2).bind fun v5 =>
   (zAP (zAD fuel) p1 fuel v5 0).bind fun o9 =>
   some o9
  else
   (zAO (zAD fuel) p1 fuel c2 0).bind fun o29 =>
   some o29
def zB0 (fuel : Nat) (p1 : zGr) : Option ((List (List UInt8)) × Int) :=
 (zAs fuel p1).bind fun v2 =>
 if !v2 then
  some (([] : List (List UInt8)), 1)
 else
  (zAD fuel p1 ([] : List (List UInt8))).bind fun v7 =>
  some (v7, 0)
def zA8 (n : Int) : Option (List UInt8) := if (Lib.itoa n).length ≤ 1000 then some (Lib.itoa n) else none
def zBx (l : List (List UInt8)) (s : List UInt8) : Option (List UInt8) := if l.length ≤ 140737488355328 ∧ (Lib.join l s).length ≤ 140737488355328 then some (Lib.join l s) else none
def zAm (F_pattern_text : zGr → Option ((List UInt8))) (p1 : zGr) : Nat → (List (List UInt8)) → Nat → Option ((List (List UInt8)))
 | 0, _, _ => none
 | k77 + 1, l72, i73 =>
  if ltI ((i73 : Nat) : Int) (p1.L.length : Int) then
   (p1.L[i73]?).bind fun x81 =>
   (F_pattern_text x81).bind fun v83 =>
   (app 16 l72 [v83]).bind fun l85 =>
   zAm F_pattern_text p1 k77 l85 (i73 + 1)
  else
   some l72
def zAd : Nat → zGr → Option ((List UInt8))
 | 0, _ => none
 | fuel + 1, p1 =>
  if eqI p1.Op 1 then
   some [95]
  else if eqI p1.Op 2 then
   some p1.S
  else if eqI p1.Op 3 then
   if ltI p1.N 0 then
    (chk .i64 (-p1.N)).bind fun n12 =>
    (zA8 n12).bind fun v16 =>
    (cat [126, 32] v16).bind fun s18 =>
    some s18
   else
    (zA8 p1.N).bind fun v24 =>
    some v24
  else if eqI p1.Op 4 then
   if eqI (p1.L.length : Int) 0 then
    some p1.S
   else
    (p1.L[0]?).bind fun x33 =>
    ((zAd fuel) x33).bind fun v35 =>
    if (eqI x33.Op 4) && (ltI 0 (x33.L.length : Int)) then
     (cat [40] v35).bind fun s46 =>
     (cat s46 [41]).bind fun s50 =>
     (cat p1.S [32]).bind fun s54 =>
     (cat s54 s50).bind fun s58 =>
     some s58
    else
     (cat p1.S [32]).bind fun s62 =>
     (cat s62 v35).bind fun s66 =>
     some s66
  else
   (zAm (zAd fuel) p1 fuel ([] : List (List UInt8)) 0).bind fun o74 =>
   (zBx o74 [44, 32]).bind fun v94 =>
   (cat [40] v94).bind fun s96 =>
   (cat s96 [41]).bind fun s100 =>
   some s100
def zB1 (fuel : Nat) (p1 : zGr) : Option ((List UInt8) × Int) :=
 (zAs fuel p1).bind fun v2 =>
 if !v2 then
  some (([] : List UInt8), 1)
 else
  (zAd fuel p1).bind fun v7 =>
  if ltI 16384 (v7.length : Int) then
   some (([] : List UInt8), 5)
  else
   some (v7, 0)
def zAG (F_pattern_equal : zGr → zGr → Option (Bool)) (s11 : (List zGr)) (s22 : (List zGr)) : Nat → Nat → Option ((Bool) ⊕ (Unit))
 | 0, _ => none
 | k13 + 1, i8 =>
  if ltI ((i8 : Nat) : Int) (s11.length : Int) then
   (s11[i8]?).bind fun x17 =>
   (s22[i8]?).bind fun x19 =>
   (F_pattern_equal x17 x19).bind fun v21 =>
   if !v21 then
    some (.inl false)
   else
    zAG F_pattern_equal s11 s22 k13 (i8 + 1)
  else
   some (.inr ())
mutual
def zAU : Nat → (List zGr) → (List zGr) → Option (Bool)
 | 0, _, _ => none
 | fuel + 1, s11, s22 =>
  if !(eqI (s11.length : Int) (s22.length : Int)) then
   some false
  else
   (zAG (zAg fuel) s11 s22 fuel 0).bind fun o => Sum.elim some (fun o9 =>
    some true) o
def zAg : Nat → zGr → zGr → Option (Bool)
 | 0, _, _ => none
 | fuel + 1, a1, b2 =>
  (if eqI a1.Op b2.Op then
   if eqI a1.N b2.N then
    if eqS a1.S b2.S then
     ((zAU fuel) a1.L b2.L).bind fun v8 =>
     some v8
    else
     some false
   else
    some false
  else
   some false : Option Bool).bind fun b12 =>
  some b12
end
def zA1 (fuel : Nat) (a1 : zGr) (b2 : zGr) : Option (Bool) :=
 ((zAs fuel a1).bind fun v3 =>
 if v3 then
  (zAs fuel b2).bind fun v6 =>
  if v6 then
   (zAg fuel a1 b2).bind fun v9 =>
   some v9
  else
   some false
 else
  some false : Option Bool).bind fun b11 =>
 some b11
def zAz (F_ref20_Same : zGr → zGr → Option (Bool)) (a1 : zGr) (b2 : zGr) : Nat → Nat → Option ((Bool) ⊕ (Unit))
 | 0, _ => none
 | k35 + 1, i30 =>
  if ltI ((i30 : Nat) : Int) (a1.L.length : Int) then
   (a1.L[i30]?).bind fun x39 =>
   (b2.L[i30]?).bind fun x41 =>
   (F_ref20_Same x39 x41).bind fun v43 =>
   if !v43 then
    some (.inl false)
   else
    zAz F_ref20_Same a1 b2 k35 (i30 + 1)
  else
   some (.inr ())
def zBL : Nat → zGr → zGr → Option (Bool)
 | 0, _, _ => none
 | fuel + 1, a1, b2 =>
  if (!(eqI a1.Op b2.Op)) || ((!(eqI a1.N b2.N)) || ((!(eqS a1.S b2.S)) || (!(eqI (a1.L.length : Int) (b2.L.length : Int))))) then
   some false
  else
   (zAz (zBL fuel) a1 b2 fuel 0).bind fun o => Sum.elim some (fun o31 =>
    some true) o
def zAT (s11 : (List (List UInt8))) (s22 : (List (List UInt8))) : Nat → Nat → Option ((Bool) ⊕ (Unit))
 | 0, _ => none
 | k13 + 1, i8 =>
  if ltI ((i8 : Nat) : Int) (s11.length : Int) then
   (s11[i8]?).bind fun x17 =>
   (s22[i8]?).bind fun x19 =>
   if !(eqS x17 x19) then
    some (.inl false)
   else
    zAT s11 s22 k13 (i8 + 1)
  else
   some (.inr ())
def zAl (fuel : Nat) (s11 : (List (List UInt8))) (s22 : (List (List UInt8))) : Option (Bool) :=
 if !(eqI (s11.length : Int) (s22.length : Int)) then
  some false
 else
  (zAT s11 s22 fuel 0).bind fun o => Sum.elim some (fun o9 =>
   some true) o
def zAf : Nat → Int → Option ((List UInt8))
 | 0, _ => none
 | fuel + 1, n1 =>
  if ltI n1 0 then
   (chk .i64 (0 - n1)).bind fun n4 =>
   ((zAf fuel) n4).bind fun v9 =>
   (cat [45] v9).bind fun s11 =>
   some s11
  else if ltI n1 10 then
   some [(UInt8.ofNat (Int.toNat (48 + n1)))]
  else
   (chk .i64 (Int.tdiv n1 10)).bind fun n22 =>
   ((zAf fuel) n22).bind fun v26 =>
   (cat v26 [(UInt8.ofNat (Int.toNat (48 + (Int.tmod n1 10))))]).bind fun s32 =>
   some s32
def zAc (F_ref20_Text : zGr → Option ((List UInt8))) (p1 : zGr) : Nat → (List UInt8) → Nat → Option ((List UInt8))
 | 0, _, _ => none
 | k78 + 1, s73, i74 =>
  if ltI ((i74 : Nat) : Int) (p1.L.length : Int) then
   if ltI 0 ((i74 : Nat) : Int) then
    (cat s73 [44, 32]).bind fun s84 =>
    (p1.L[i74]?).bind fun x88 =>
    (F_ref20_Text x88).bind fun v90 =>
    (cat s84 v90).bind fun s92 =>
    zAc F_ref20_Text p1 k78 s92 (i74 + 1)
   else
    (p1.L[i74]?).bind fun x99 =>
    (F_ref20_Text x99).bind fun v101 =>
    (cat s73 v101).bind fun s103 =>
    zAc F_ref20_Text p1 k78 s103 (i74 + 1)
  else
   some s73
def zAk : Nat → zGr → Option ((List UInt8))
 | 0, _ => none
 | fuel + 1, p1 =>
  if eqI p1.Op 1 then
   some [95]
  else if eqI p1.Op 2 then
   some p1.S
  else if eqI p1.Op 3 then
   if ltI p1.N 0 then
    (chk .i64 (0 - p1.N)).bind fun n12 =>
    (zAf fuel n12).bind fun v17 =>
    (cat [126, 32] v17).bind fun s19 =>
    some s19
   else
    (zAf fuel p1.N).bind fun v25 =>
    some v25
  else if eqI p1.Op 4 then
   if eqI (p1.L.length : Int) 0 then
    some p1.S
   else
    (p1.L[0]?).bind fun x34 =>
    ((zAk fuel) x34).bind fun v36 =>
    if (eqI x34.Op 4) && (ltI 0 (x34.L.length : Int)) then
     (cat [40] v36).bind fun s47 =>
     (cat s47 [41]).bind fun s51 =>
     (cat p1.S [32]).bind fun s55 =>
     (cat s55 s51).bind fun s59 =>
     some s59
    else
     (cat p1.S [32]).bind fun s63 =>
     (cat s63 v36).bind fun s67 =>
     some s67
  else
   (zAc (zAk fuel) p1 fuel [40] 0).bind fun o75 =>
   (cat o75 [41]).bind fun s112 =>
   some s112
def zBM (fuel : Nat) (a1 : zGr) (b2 : zGr) : Option (Bool) :=
 (zDl).bind fun v3 =>
 if !v3 then
  some false
 else
  ((zCT fuel a1).bind fun v8 =>
  if v8 then
   some true
  else
   (zCT fuel b2).bind fun v11 =>
   some v11 : Option Bool).bind fun b13 =>
  if b13 then
   some true
  else
   (zBp fuel a1).bind fun v16 =>
   (zB0 fuel a1).bind fun v18 =>
   (zB1 fuel a1).bind fun v20 =>
   ((zAs fuel a1).bind fun v22 =>
   if !(eqB v22 v16) then
    some true
   else
    (zA1 fuel a1 b2).bind fun v27 =>
    if v16 then
     (zBp fuel b2).bind fun v30 =>
     if v30 then
      (zBL fuel a1 b2).bind fun v33 =>
      if !(eqB v27 v33) then
       some true
      else
       (zA1 fuel a1 a1).bind fun v38 =>
       some (!(eqB v38 v16))
     else if !(eqB v27 false) then
      some true
     else
      (zA1 fuel a1 a1).bind fun v43 =>
      some (!(eqB v43 v16))
    else if !(eqB v27 false) then
     some true
    else
     (zA1 fuel a1 a1).bind fun v48 =>
     some (!(eqB v48 v16)) : Option Bool).bind fun b50 =>
   if b50 then
    some false
   else if !v16 then
    some ((eqI v18.2 1) && ((eqI (v18.1.length : Int) 0) && ((eqI v20.2 1) && (eqS v20.1 ([] : List UInt8)))))
   else
    (if eqI v18.2 0 then
     (zBl fuel a1).bind fun v67 =>
     (zAl fuel v18.1 v67).bind fun v69 =>
     if v69 then
      if eqI v20.2 0 then
       (zAk fuel a1).bind fun v74 =>
       some (eqS v20.1 v74)
      else
       some false
     else
      some false
    else
     some false : Option Bool).bind fun b78 =>
    some b78
def zDj (s t : List UInt8) : Option (List UInt8 × List UInt8 × Bool) := if s.length < 4294967281 then some (Lib.cut s t) else none
def zB4 (s : List UInt8) (c : UInt8) : Option Int := some (Lib.indexByte s c)
def zCt (s t : List UInt8) : Option Int := match t with
 | [c] => some (Lib.countByte s c : Nat)
 | _ => none
def zCC (s t : List UInt8) : Option Bool := match t with
 | [c] => some (decide (0 ≤ Lib.indexByte s c))
 | _ => none
def zDH (b : List UInt8) : Option (List UInt8) := some b
end Go.Proofs.YtipodehgjknelaaGreatDoor
