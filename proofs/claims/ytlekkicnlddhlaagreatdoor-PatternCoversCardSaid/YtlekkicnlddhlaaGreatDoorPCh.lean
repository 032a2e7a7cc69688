/- The row PatternCovers holds: what covers a pattern matches what this matches, and covering is as specified. Part 8 of 18. No condition. -/
import Derived.Test.YtlekkicnlddhlaaGreatDoorPCg
import Derived.Lib.Bytealg
import Derived.Lib.Join
import Derived.Lib.Fields
import Derived.Lib.ItoaNum
set_option linter.unusedVariables false
set_option linter.unnecessarySimpa false
set_option linter.unusedSimpArgs false
set_option maxRecDepth 100000
set_option maxHeartbeats 1000000
namespace Go.Proofs.YtlekkicnlddhlaaGreatDoor
open Go Go.Abs
def zEH : Option Bool := some true
def zBc (F_law20_big_1 : zHm → Int → Int → Option (Int)) (p1 : zHm) (depth2 : Int) : Nat → Int → Nat → Option (Int)
 | 0, _, _ => none
 | k23 + 1, a18, i19 =>
  if (ltI ((i19 : Nat) : Int) (p1.L.length : Int)) && (leI a18 200) then
   (p1.L[i19]?).bind fun x35 =>
   (chk .i64 (depth2 + 1)).bind fun n37 =>
   (F_law20_big_1 x35 n37 a18).bind fun v42 =>
   zBc F_law20_big_1 p1 depth2 k23 v42 (i19 + 1)
  else
   some a18
def zA8 (F_law20_big_1 : zHm → Int → Int → Option (Int)) (p1 : zHm) (depth2 : Int) : Nat → Int → Nat → Option (Int)
 | 0, _, _ => none
 | k61 + 1, a56, i57 =>
  if (ltI ((i57 : Nat) : Int) (p1.L.length : Int)) && (leI a56 200) then
   (p1.L[i57]?).bind fun x70 =>
   (chk .i64 (depth2 + 1)).bind fun n72 =>
   (F_law20_big_1 x70 n72 a56).bind fun v77 =>
   zA8 F_law20_big_1 p1 depth2 k61 v77 (i57 + 1)
  else
   some a56
def zAz : Nat → zHm → Int → Int → Option (Int)
 | 0, _, _, _ => none
 | fuel + 1, p1, depth2, c3 =>
  (chk .i64 (c3 + 1)).bind fun n4 =>
  if (ltI 50 depth2) || ((ltI 20 (p1.L.length : Int)) || (ltI 200 (p1.S.length : Int))) then
   (zBc (zAz fuel) p1 depth2 fuel 1000 0).bind fun o20 =>
   some o20
  else
   (zA8 (zAz fuel) p1 depth2 fuel n4 0).bind fun o58 =>
   some o58
def zCj (fuel : Nat) (p1 : zHm) : Option (Bool) :=
 (zAz fuel p1 1 0).bind fun v2 =>
 some (ltI 200 v2)
def zCU (s1 : (List UInt8)) : Option (Bool) :=
 some (ltI 100 (s1.length : Int))
def zAK (s1 : (List (List UInt8))) : Nat → Nat → Option ((Int) ⊕ (Unit))
 | 0, _ => none
 | k7 + 1, i2 =>
  if ltI ((i2 : Nat) : Int) (s1.length : Int) then
   (s1[i2]?).bind fun x11 =>
   (zCU x11).bind fun v13 =>
   if v13 then
    some (.inl ((i2 : Nat) : Int))
   else
    zAK s1 k7 (i2 + 1)
  else
   some (.inr ())
def zAi (fuel : Nat) (s1 : (List (List UInt8))) : Option (Int) :=
 (zAK s1 fuel 0).bind fun o => Sum.elim some (fun o3 =>
  some (-1)) o
def zAW (fuel : Nat) (s1 : (List (List UInt8))) : Option (Bool) :=
 (zAi fuel s1).bind fun v2 =>
 some (leI 0 v2)
def zBB (F_law20_huge_1 : zHl → Int → Int → Option (Int)) (v1 : zHl) (depth2 : Int) : Nat → Int → Nat → Option (Int)
 | 0, _, _ => none
 | k37 + 1, a32, i33 =>
  if (ltI ((i33 : Nat) : Int) (v1.L.length : Int)) && (leI a32 400) then
   (v1.L[i33]?).bind fun x49 =>
   (chk .i64 (depth2 + 1)).bind fun n51 =>
   (F_law20_huge_1 x49 n51 a32).bind fun v56 =>
   zBB F_law20_huge_1 v1 depth2 k37 v56 (i33 + 1)
  else
   some a32
def zAs (F_law20_huge_1 : zHl → Int → Int → Option (Int)) (v1 : zHl) (depth2 : Int) : Nat → Int → Nat → Option (Int)
 | 0, _, _ => none
 | k66 + 1, a61, i62 =>
  if (ltI ((i62 : Nat) : Int) (v1.L.length : Int)) && (leI a61 400) then
   (v1.L[i62]?).bind fun x78 =>
   (chk .i64 (depth2 + 1)).bind fun n80 =>
   (F_law20_huge_1 x78 n80 a61).bind fun v85 =>
   zAs F_law20_huge_1 v1 depth2 k66 v85 (i62 + 1)
  else
   some a61
def zAj : Nat → zHl → Int → Int → Option (Int)
 | 0, _, _, _ => none
 | fuel + 1, v1, depth2, c3 =>
  (chk .i64 (c3 + 1)).bind fun n4 =>
  (if ltI 60 depth2 then
   some true
  else if ltI 30 (v1.L.length : Int) then
   some true
  else if ltI 30 (v1.Names.length : Int) then
   some true
  else if ltI 500 (v1.S.length : Int) then
   some true
  else
   (zAW fuel v1.Names).bind fun v27 =>
   some v27 : Option Bool).bind fun b29 =>
  if b29 then
   (zBB (zAj fuel) v1 depth2 fuel 1000 0).bind fun o34 =>
   some o34
  else
   (zAs (zAj fuel) v1 depth2 fuel n4 0).bind fun o63 =>
   some o63
def zDC (fuel : Nat) (v1 : zHl) : Option (Bool) :=
 (zAj fuel v1 1 0).bind fun v2 =>
 some (ltI 400 v2)
def zCV (c1 : UInt8) : Option (Int) :=
 if (leI 97 (c1.toNat : Int)) && (leI (c1.toNat : Int) 122) then
  some 1
 else if (leI 65 (c1.toNat : Int)) && (leI (c1.toNat : Int) 90) then
  some 2
 else if (leI 48 (c1.toNat : Int)) && (leI (c1.toNat : Int) 57) then
  some 3
 else if eqI (c1.toNat : Int) 95 then
  some 4
 else if eqI (c1.toNat : Int) 46 then
  some 5
 else
  some 0
def zBI (l16 : (List UInt8)) : Nat → Nat → Option ((Bool) ⊕ (Unit))
 | 0, _ => none
 | k25 + 1, i20 =>
  if ltI ((i20 : Nat) : Int) (l16.length : Int) then
   (l16[i20]?).bind fun x29 =>
   (zCV x29).bind fun v31 =>
   if (eqI v31 0) || (eqI v31 5) then
    some (.inl false)
   else
    zBI l16 k25 (i20 + 1)
  else
   some (.inr ())
def zBx (fuel : Nat) (s1 : (List UInt8)) (first2 : Int) : Option (Bool) :=
 (if eqS s1 ([] : List UInt8) then
  some true
 else if ltI 24 (s1.length : Int) then
  some true
 else
  (s1[0]?).bind fun c9 =>
  (zCV c9).bind fun v11 =>
  some (!(eqI v11 first2)) : Option Bool).bind fun b13 =>
 if b13 then
  some false
 else
  (bytesC s1).bind fun l16 =>
  (zBI l16 fuel 0).bind fun o => Sum.elim some (fun o21 =>
   some true) o
def zBa (s : List UInt8) : Option (List (List UInt8)) := if s.length < 4294967281 ∧ s.all (fun c => decide (c.toNat < 128)) = true ∧ (Lib.fields s).length ≤ 100000 ∧ (Lib.fields s).all (fun z => decide (z.length ≤ 100000)) = true then some (Lib.fields s) else none
def zAa (s1 : (List (List UInt8))) (v2 : (List UInt8)) : Nat → Nat → Option ((Int) ⊕ (Unit))
 | 0, _ => none
 | k8 + 1, i3 =>
  if ltI ((i3 : Nat) : Int) (s1.length : Int) then
   (s1[i3]?).bind fun x12 =>
   if eqS v2 x12 then
    some (.inl ((i3 : Nat) : Int))
   else
    zAa s1 v2 k8 (i3 + 1)
  else
   some (.inr ())
def zBW (fuel : Nat) (s1 : (List (List UInt8))) (v2 : (List UInt8)) : Option (Int) :=
 (zAa s1 v2 fuel 0).bind fun o => Sum.elim some (fun o4 =>
  some (-1)) o
def zAo (fuel : Nat) (s1 : (List (List UInt8))) (v2 : (List UInt8)) : Option (Bool) :=
 (zBW fuel s1 v2).bind fun v3 =>
 some (leI 0 v3)
def zDD (fuel : Nat) (s1 : (List UInt8)) : Option (Bool) :=
 (zBa [97, 110, 100, 97, 108, 115, 111, 32, 99, 97, 115, 101, 32, 100, 97, 116, 97, 32, 100, 105, 118, 32, 101, 108, 115, 101, 32, 101, 110, 100, 32, 102, 110, 32, 102, 117, 110, 32, 102, 117, 110, 99, 116, 111, 114, 32, 103, 101, 110, 101, 114, 97, 116, 105, 118, 101, 32, 105, 102, 32, 105, 109, 112, 111, 114, 116, 32, 105, 110, 32, 105, 110, 99, 108, 117, 100, 101, 32, 108, 101, 116, 32, 109, 111, 100, 32, 109, 111, 100, 117, 108, 101, 32, 111, 102, 32, 111, 112, 101, 110, 32, 111, 114, 101, 108, 115, 101, 32, 112, 97, 99, 107, 32, 115, 104, 97, 114, 105, 110, 103, 32, 115, 105, 103, 32, 115, 105, 103, 110, 97, 116, 117, 114, 101, 32, 115, 116, 114, 117, 99, 116, 32, 115, 116, 114, 117, 99, 116, 117, 114, 101, 32, 116, 104, 101, 110, 32, 116, 121, 112, 101, 32, 117, 110, 112, 97, 99, 107, 32, 118, 97, 108, 32, 119, 105, 116, 104]).bind fun v2 =>
 (zAo fuel v2 s1).bind fun v4 =>
 some v4
def zCA (fuel : Nat) (s1 : (List UInt8)) : Option (Bool) :=
 ((zBx fuel s1 1).bind fun v2 =>
 if v2 then
  (zDD fuel s1).bind fun v5 =>
  some (!v5)
 else
  some false : Option Bool).bind fun b7 =>
 some b7
def zB9 (fuel : Nat) (s1 : (List UInt8)) : Option (Bool) :=
 (zBx fuel s1 2).bind fun v2 =>
 some v2
def zCT (fuel : Nat) (p1 : zHm) : Option (Bool) :=
 if eqI p1.Op 1 then
  some ((eqI (p1.L.length : Int) 0) && ((eqI p1.N 0) && (eqS p1.S ([] : List UInt8))))
 else if eqI p1.Op 2 then
  (if eqI (p1.L.length : Int) 0 then
   if eqI p1.N 0 then
    (zCA fuel p1.S).bind fun v17 =>
    some v17
   else
    some false
  else
   some false : Option Bool).bind fun b21 =>
  some b21
 else if eqI p1.Op 3 then
  some ((eqI (p1.L.length : Int) 0) && ((eqS p1.S ([] : List UInt8)) && ((leI (-4503599627370496) p1.N) && (leI p1.N 4503599627370496))))
 else if eqI p1.Op 4 then
  (if leI (p1.L.length : Int) 1 then
   if eqI p1.N 0 then
    (zB9 fuel p1.S).bind fun v42 =>
    some v42
   else
    some false
  else
   some false : Option Bool).bind fun b47 =>
  some b47
 else if eqI p1.Op 5 then
  some ((!(eqI (p1.L.length : Int) 1)) && ((leI (p1.L.length : Int) 9) && ((eqI p1.N 0) && (eqS p1.S ([] : List UInt8)))))
 else
  some false
def zAk (F_pattern_measure : zHm → Int → Int → Option (Int × Bool)) (p1 : zHm) (left2 : Int) (depth3 : Int) : Nat → Int → Nat → Option ((Int × Bool) ⊕ (Int))
 | 0, _, _ => none
 | k21 + 1, n15, i16 =>
  if ltI ((i16 : Nat) : Int) (p1.L.length : Int) then
   (p1.L[i16]?).bind fun x25 =>
   (chk .i64 (left2 - n15)).bind fun n27 =>
   (chk .i64 (depth3 + 1)).bind fun n32 =>
   (F_pattern_measure x25 n27 n32).bind fun v37 =>
   if !v37.2 then
    some (.inl (0, false))
   else
    (chk .i64 (n15 + v37.1)).bind fun n42 =>
    zAk F_pattern_measure p1 left2 depth3 k21 n42 (i16 + 1)
  else
   some (.inr n15)
def zAm : Nat → zHm → Int → Int → Option (Int × Bool)
 | 0, _, _, _ => none
 | fuel + 1, p1, left2, depth3 =>
  (if leI left2 0 then
   some true
  else if ltI 400 depth3 then
   some true
  else
   (zCT fuel p1).bind fun v10 =>
   some (!v10) : Option Bool).bind fun b12 =>
  if b12 then
   some (0, false)
  else
   (zAk (zAm fuel) p1 left2 depth3 fuel 1 0).bind fun o => Sum.elim some (fun o17 =>
    some (o17, true)) o
def zCC (name1 : (List UInt8)) (c2 : Bool) (c3 : (List (List UInt8 × Bool))) : Option (Bool × (List (List UInt8 × Bool))) :=
 some (c2 && (!(mgetD c3 name1 false)), mput c3 name1 true)
def zAP (F_pattern_variables_Valid_1 : zHm → Bool → (List (List UInt8 × Bool)) → Option (Bool × (List (List UInt8 × Bool)))) (p1 : zHm) : Nat → Bool → (List (List UInt8 × Bool)) → Nat → Option (Bool × (List (List UInt8 × Bool)))
 | 0, _, _, _ => none
 | k14 + 1, a8, a9, i10 =>
  if ltI ((i10 : Nat) : Int) (p1.L.length : Int) then
   (p1.L[i10]?).bind fun x18 =>
   (F_pattern_variables_Valid_1 x18 a8 a9).bind fun v20 =>
   zAP F_pattern_variables_Valid_1 p1 k14 v20.1 v20.2 (i10 + 1)
  else
   some (a8, a9)
def zAR (F_pattern_variables_Valid_1 : zHm → Bool → (List (List UInt8 × Bool)) → Option (Bool × (List (List UInt8 × Bool)))) (p1 : zHm) : Nat → Bool → (List (List UInt8 × Bool)) → Nat → Option (Bool × (List (List UInt8 × Bool)))
 | 0, _, _, _ => none
 | k37 + 1, a31, a32, i33 =>
  if ltI ((i33 : Nat) : Int) (p1.L.length : Int) then
   (p1.L[i33]?).bind fun x41 =>
   (F_pattern_variables_Valid_1 x41 a31 a32).bind fun v43 =>
   zAR F_pattern_variables_Valid_1 p1 k37 v43.1 v43.2 (i33 + 1)
  else
   some (a31, a32)
def zAE : Nat → zHm → Bool → (List (List UInt8 × Bool)) → Option (Bool × (List (List UInt8 × Bool)))
 | 0, _, _, _ => none
 | fuel + 1, p1, c2, c3 =>
  if eqI p1.Op 2 then
   (zCC p1.S c2 c3).bind fun v6 =>
   (zAP (zAE fuel) p1 fuel v6.1 v6.2 0).bind fun o11 =>
   some (o11.1, o11.2)
  else
   (zAR (zAE fuel) p1 fuel c2 c3 0).bind fun o34 =>
   some (o34.1, o34.2)
def zBV (fuel : Nat) (p1 : zHm) : Option (Bool) :=
 (zAm fuel p1 20000 1).bind fun v2 =>
 if !v2.2 then
  some false
 else
  (zAE fuel p1 true ([] : List (List UInt8 × Bool))).bind fun v7 =>
  some v7.1
def zAM (F_pattern_covers : zHm → zHm → Option (Bool)) (s11 : (List zHm)) (s22 : (List zHm)) : Nat → Nat → Option ((Bool) ⊕ (Unit))
 | 0, _ => none
 | k13 + 1, i8 =>
  if ltI ((i8 : Nat) : Int) (s11.length : Int) then
   (s11[i8]?).bind fun x17 =>
   (s22[i8]?).bind fun x19 =>
   (F_pattern_covers x17 x19).bind fun v21 =>
   if !v21 then
    some (.inl false)
   else
    zAM F_pattern_covers s11 s22 k13 (i8 + 1)
  else
   some (.inr ())
mutual
def zAc : Nat → (List zHm) → (List zHm) → Option (Bool)
 | 0, _, _ => none
 | fuel + 1, s11, s22 =>
  if !(eqI (s11.length : Int) (s22.length : Int)) then
   some false
  else
   (zAM (zAq fuel) s11 s22 fuel 0).bind fun o => Sum.elim some (fun o9 =>
    some true) o
def zAq : Nat → zHm → zHm → Option (Bool)
 | 0, _, _ => none
 | fuel + 1, p1, q2 =>
  if (eqI p1.Op 1) || (eqI p1.Op 2) then
   some true
  else
   (if eqI p1.Op q2.Op then
    if eqI p1.N q2.N then
     if eqS p1.S q2.S then
      ((zAc fuel) p1.L q2.L).bind fun v16 =>
      some v16
     else
      some false
    else
     some false
   else
    some false : Option Bool).bind fun b20 =>
   some b20
end
def zAe (fuel : Nat) (p1 : zHm) (q2 : zHm) : Option (Bool × Int) :=
 ((zBV fuel p1).bind fun v3 =>
 if !v3 then
  some true
 else
  (zBV fuel q2).bind fun v8 =>
  some (!v8) : Option Bool).bind fun b10 =>
 if b10 then
  some (false, 1)
 else
  (zAq fuel p1 q2).bind fun v13 =>
  some (v13, 0)
def zBw (c1 : UInt8) : Option (Bool) :=
 some ((leI 97 (c1.toNat : Int)) && (leI (c1.toNat : Int) 122))
def zBU (c1 : UInt8) : Option (Bool) :=
 some ((leI 65 (c1.toNat : Int)) && (leI (c1.toNat : Int) 90))
def zEG (c1 : UInt8) : Option (Bool) :=
 some ((leI 48 (c1.toNat : Int)) && (leI (c1.toNat : Int) 57))
def zCI (c1 : UInt8) : Option (Bool) :=
 ((zBw c1).bind fun v2 =>
 if v2 then
  some true
 else
  (zBU c1).bind fun v5 =>
  if v5 then
   some true
  else
   (zEG c1).bind fun v8 =>
   if v8 then
    some true
   else
    some (eqI (c1.toNat : Int) 95) : Option Bool).bind fun b11 =>
 some b11
def zA7 (s1 : (List UInt8)) : Nat → Nat → Option ((Bool) ⊕ (Unit))
 | 0, _ => none
 | k7 + 1, i2 =>
  if ltI ((i2 : Nat) : Int) (s1.length : Int) then
   (s1[i2]?).bind fun c11 =>
   (zCI c11).bind fun v13 =>
   if !v13 then
    some (.inl false)
   else
    zA7 s1 k7 (i2 + 1)
  else
   some (.inr ())
def zCq (fuel : Nat) (s1 : (List UInt8)) : Option (Bool) :=
 (zA7 s1 fuel 0).bind fun o => Sum.elim some (fun o3 =>
  some true) o
def zCh (fuel : Nat) (s1 : (List UInt8)) : Option (Bool) :=
 (if leI 1 (s1.length : Int) then
  if leI (s1.length : Int) 24 then
   (zCq fuel s1).bind fun v7 =>
   some v7
  else
   some false
 else
  some false : Option Bool).bind fun b12 =>
 some b12
def zDB : Option ((List (List UInt8))) :=
 (some [[97, 110, 100, 97, 108, 115, 111], [99, 97, 115, 101], [100, 97, 116, 97], [100, 105, 118], [101, 108, 115, 101], [101, 110, 100], [102, 110], [102, 117, 110], [102, 117, 110, 99, 116, 111, 114], [103, 101, 110, 101, 114, 97, 116, 105, 118, 101], [105, 102], [105, 109, 112, 111, 114, 116], [105, 110], [105, 110, 99, 108, 117, 100, 101], [108, 101, 116], [109, 111, 100], [109, 111, 100, 117, 108, 101], [111, 102], [111, 112, 101, 110], [111, 114, 101, 108, 115, 101], [112, 97, 99, 107], [115, 104, 97, 114, 105, 110, 103], [115, 105, 103], [115, 105, 103, 110, 97, 116, 117, 114, 101], [115, 116, 114, 117, 99, 116], [115, 116, 114, 117, 99, 116, 117, 114, 101], [116, 104, 101, 110], [116, 121, 112, 101], [117, 110, 112, 97, 99, 107], [118, 97, 108], [119, 105, 116, 104]]).bind fun l1 =>
 some l1
def zBG (l1 : (List (List UInt8))) (s2 : (List UInt8)) : Nat → Nat → Option ((Int) ⊕ (Unit))
 | 0, _ => none
 | k8 + 1, i3 =>
  if ltI ((i3 : Nat) : Int) (l1.length : Int) then
   (l1[i3]?).bind fun x12 =>
   if eqS x12 s2 then
    some (.inl ((i3 : Nat) : Int))
   else
    zBG l1 s2 k8 (i3 + 1)
  else
   some (.inr ())
def zCi (fuel : Nat) (l1 : (List (List UInt8))) (s2 : (List UInt8)) : Option (Int) :=
 (zBG l1 s2 fuel 0).bind fun o => Sum.elim some (fun o4 =>
  some (-1)) o
def zB8 (fuel : Nat) (s1 : (List UInt8)) : Option (Bool) :=
 ((zCh fuel s1).bind fun v2 =>
 if v2 then
  (s1[0]?).bind fun c5 =>
  (zBw c5).bind fun v7 =>
  if v7 then
   (zDB).bind fun v10 =>
   (zCi fuel v10 s1).bind fun v12 =>
   some (ltI v12 0)
  else
   some false
 else
  some false : Option Bool).bind fun b14 =>
 some b14
def zB7 (fuel : Nat) (s1 : (List UInt8)) : Option (Bool) :=
 ((zCh fuel s1).bind fun v2 =>
 if v2 then
  (s1[0]?).bind fun c5 =>
  (zBU c5).bind fun v7 =>
  some v7
 else
  some false : Option Bool).bind fun b9 =>
 some b9
def zC9 (fuel : Nat) (p1 : zHm) : Option (Bool) :=
 if if !(eqI p1.N 0) then (!(eqI p1.Op 3)) || ((!(eqS p1.S ([] : List UInt8))) && ((!(eqI p1.Op 2)) && (!(eqI p1.Op 4)))) else (!(eqS p1.S ([] : List UInt8))) && ((!(eqI p1.Op 2)) && (!(eqI p1.Op 4))) then
  some false
 else if eqI p1.Op 1 then
  some (eqI (p1.L.length : Int) 0)
 else if eqI p1.Op 2 then
  ((zB8 fuel p1.S).bind fun v34 =>
  if v34 then
   some (eqI (p1.L.length : Int) 0)
  else
   some false : Option Bool).bind fun b37 =>
  some b37
 else if eqI p1.Op 3 then
  some ((leI (-4503599627370496) p1.N) && ((leI p1.N 4503599627370496) && (eqI (p1.L.length : Int) 0)))
 else if eqI p1.Op 4 then
  ((zB7 fuel p1.S).bind fun v53 =>
  if v53 then
   some (leI (p1.L.length : Int) 1)
  else
   some false : Option Bool).bind fun b56 =>
  some b56
 else if eqI p1.Op 5 then
  some ((!(eqI (p1.L.length : Int) 1)) && (leI (p1.L.length : Int) 9))
 else
  some false
def zAx (F_ref20_count : zHm → Int → Int → Option (Int)) (p1 : zHm) (depth3 : Int) : Nat → Int → Nat → Option (Int)
 | 0, _, _ => none
 | k25 + 1, left20, i21 =>
  if (ltI ((i21 : Nat) : Int) (p1.L.length : Int)) && (leI 0 left20) then
   (p1.L[i21]?).bind fun x37 =>
   (chk .i64 (depth3 - 1)).bind fun n39 =>
   (F_ref20_count x37 left20 n39).bind fun v44 =>
   zAx F_ref20_count p1 depth3 k25 v44 (i21 + 1)
  else
   some left20
def zBF : Nat → zHm → Int → Int → Option (Int)
 | 0, _, _, _ => none
 | fuel + 1, p1, left2, depth3 =>
  (if ltI left2 1 then
   some true
  else if ltI depth3 1 then
   some true
  else
   (zC9 fuel p1).bind fun v10 =>
   some (!v10) : Option Bool).bind fun b12 =>
  if b12 then
   some (-1)
  else
   (chk .i64 (left2 - 1)).bind fun n15 =>
   (zAx (zBF fuel) p1 depth3 fuel n15 0).bind fun o22 =>
   some o22
def zBE (F_ref20_vars : (List (List UInt8)) → zHm → Option ((List (List UInt8)))) (p2 : zHm) : Nat → (List (List UInt8)) → Nat → Option ((List (List UInt8)))
 | 0, _, _ => none
 | k20 + 1, l15, i16 =>
  if ltI ((i16 : Nat) : Int) (p2.L.length : Int) then
   (p2.L[i16]?).bind fun x24 =>
   (F_ref20_vars l15 x24).bind fun v26 =>
   zBE F_ref20_vars p2 k20 v26 (i16 + 1)
  else
   some l15
def zBK : Nat → (List (List UInt8)) → zHm → Option ((List (List UInt8)))
 | 0, _, _ => none
 | fuel + 1, l1, p2 =>
  if eqI p2.Op 2 then
   (app 16 ([] : List (List UInt8)) l1).bind fun l5 =>
   (app 16 l5 [p2.S]).bind fun l9 =>
   some l9
  else
   (zBE (zBK fuel) p2 fuel l1 0).bind fun o17 =>
   some o17
def zDA (fuel : Nat) (p1 : zHm) : Option ((List (List UInt8))) :=
 (zBK fuel ([] : List (List UInt8)) p1).bind fun v2 =>
 some v2
def zA6 (fuel : Nat) (v7 : (List (List UInt8))) : Nat → Nat → Option ((Bool) ⊕ (Unit))
 | 0, _ => none
 | k14 + 1, i9 =>
  if ltI ((i9 : Nat) : Int) (v7.length : Int) then
   (subC v7 0 ((i9 : Nat) : Int)).bind fun l18 =>
   (v7[i9]?).bind fun x22 =>
   (zCi fuel l18 x22).bind fun v24 =>
   if leI 0 v24 then
    some (.inl false)
   else
    zA6 fuel v7 k14 (i9 + 1)
  else
   some (.inr ())
def zCH (fuel : Nat) (p1 : zHm) : Option (Bool) :=
 (zBF fuel p1 20000 400).bind fun v2 =>
 if ltI v2 0 then
  some false
 else
  (zDA fuel p1).bind fun v7 =>
  (zA6 fuel v7 fuel 0).bind fun o => Sum.elim some (fun o10 =>
   some true) o
def zAy (F_ref20_Covers : zHm → zHm → Option (Bool)) (p1 : zHm) (q2 : zHm) : Nat → Nat → Option ((Bool) ⊕ (Unit))
 | 0, _ => none
 | k43 + 1, i38 =>
  if ltI ((i38 : Nat) : Int) (p1.L.length : Int) then
   (p1.L[i38]?).bind fun x47 =>
   (q2.L[i38]?).bind fun x49 =>
   (F_ref20_Covers x47 x49).bind fun v51 =>
   if !v51 then
    some (.inl false)
   else
    zAy F_ref20_Covers p1 q2 k43 (i38 + 1)
  else
   some (.inr ())
def zBD : Nat → zHm → zHm → Option (Bool)
 | 0, _, _ => none
 | fuel + 1, p1, q2 =>
  if (eqI p1.Op 1) || (eqI p1.Op 2) then
   some true
  else if (!(eqI p1.Op q2.Op)) || ((!(eqI p1.N q2.N)) || ((!(eqS p1.S q2.S)) || (!(eqI (p1.L.length : Int) (q2.L.length : Int))))) then
   some false
  else
   (zAy (zBD fuel) p1 q2 fuel 0).bind fun o => Sum.elim some (fun o39 =>
    some true) o
def zAn (n1 : Bool) (s2 : Bool) (names3 : Bool) (w4 : zHl) : Option (Bool) :=
 some (if n1 then if s2 then names3 || (eqI (w4.Names.length : Int) 0) else (eqS w4.S ([] : List UInt8)) && (names3 || (eqI (w4.Names.length : Int) 0)) else (eqI w4.N 0) && (if s2 then names3 || (eqI (w4.Names.length : Int) 0) else (eqS w4.S ([] : List UInt8)) && (names3 || (eqI (w4.Names.length : Int) 0))))
def zDI (v1 : zHl) : Option (Bool) :=
 some ((eqI v1.Op 3) && ((eqI (v1.Names.length : Int) 0) && (ltI 0 (v1.L.length : Int))))
def zAl (l1 : (List (List UInt8))) : Nat → Nat → Option ((Bool) ⊕ (Unit))
 | 0, _ => none
 | k7 + 1, i2 =>
  if ltI ((i2 : Nat) : Int) (l1.length : Int) then
   (idx l1 (((i2 : Nat) : Int) - 1)).bind fun x12 =>
   (l1[i2]?).bind fun x16 =>
   if !(ltS x12 x16) then
    some (.inl false)
   else
    zAl l1 k7 (i2 + 1)
  else
   some (.inr ())
def zBm (fuel : Nat) (l1 : (List (List UInt8))) : Option (Bool) :=
 (zAl l1 fuel 1).bind fun o => Sum.elim some (fun o3 =>
  some true) o
def zAu (l8 : (List UInt8)) : Nat → Nat → Option ((Bool) ⊕ (Unit))
 | 0, _ => none
 | k17 + 1, i12 =>
  if ltI ((i12 : Nat) : Int) (l8.length : Int) then
   (l8[i12]?).bind fun x21 =>
   (zCV x21).bind fun v23 =>
   if eqI v23 0 then
    some (.inl false)
   else
    zAu l8 k17 (i12 + 1)
  else
   some (.inr ())
def zBp (fuel : Nat) (s1 : (List UInt8)) : Option (Bool) :=
 if (eqS s1 ([] : List UInt8)) || (ltI 48 (s1.length : Int)) then
  some false
 else
  (bytesC s1).bind fun l8 =>
  (zAu l8 fuel 0).bind fun o => Sum.elim some (fun o13 =>
   some true) o
def zCR (fuel : Nat) (s1 : (List UInt8)) : Option (Bool) :=
 (zBp fuel s1).bind fun v2 =>
 some (!v2)
def zAJ (fuel : Nat) (s1 : (List (List UInt8))) : Nat → Nat → Option ((Int) ⊕ (Unit))
 | 0, _ => none
 | k7 + 1, i2 =>
  if ltI ((i2 : Nat) : Int) (s1.length : Int) then
   (s1[i2]?).bind fun x11 =>
   (zCR fuel x11).bind fun v13 =>
   if v13 then
    some (.inl ((i2 : Nat) : Int))
   else
    zAJ fuel s1 k7 (i2 + 1)
  else
   some (.inr ())
def zAh (fuel : Nat) (s1 : (List (List UInt8))) : Option (Int) :=
 (zAJ fuel s1 fuel 0).bind fun o => Sum.elim some (fun o3 =>
  some (-1)) o
def zAV (fuel : Nat) (s1 : (List (List UInt8))) : Option (Bool) :=
 (zAh fuel s1).bind fun v2 =>
 some (leI 0 v2)
def zCS (fuel : Nat) (l1 : (List (List UInt8))) : Option (Bool) :=
 (if leI (l1.length : Int) 1000 then
  (zBm fuel l1).bind fun v5 =>
  if v5 then
   (zAV fuel l1).bind fun v8 =>
   some (!v8)
  else
   some false
 else
  some false : Option Bool).bind fun b12 =>
 some b12
def zCv (v1 : zHl) : Option (Bool) :=
 some ((eqI v1.Op 4) && (eqS v1.S ([] : List UInt8)))
def zC8 (fuel : Nat) (v1 : zHl) : Option (Bool) :=
 if eqI v1.Op 1 then
  ((zAn true false false v1).bind fun v4 =>
  if v4 then
   if eqI (v1.L.length : Int) 0 then
    if leI (-4503599627370496) v1.N then
     some (leI v1.N 4503599627370496)
    else
     some false
   else
    some false
  else
   some false : Option Bool).bind fun b13 =>
  some b13
 else if eqI v1.Op 2 then
  ((zAn false true false v1).bind fun v22 =>
  if v22 then
   if eqI (v1.L.length : Int) 0 then
    some (leI (v1.S.length : Int) 16384)
   else
    some false
  else
   some false : Option Bool).bind fun b28 =>
  some b28
 else if eqI v1.Op 3 then
  (zDI v1).bind fun v36 =>
  if v36 then
   ((zAn false false false v1).bind fun v39 =>
   if v39 then
    some (leI (v1.L.length : Int) 1000)
   else
    some false : Option Bool).bind fun b42 =>
   some b42
  else
   ((zAn false false true v1).bind fun v46 =>
   if v46 then
    (zCS fuel v1.Names).bind fun v49 =>
    if v49 then
     some (eqI (v1.L.length : Int) (v1.Names.length : Int))
    else
     some false
   else
    some false : Option Bool).bind fun b52 =>
   some b52
 else if eqI v1.Op 4 then
  (zCv v1).bind fun v63 =>
  if v63 then
   ((zAn true false false v1).bind fun v66 =>
   if v66 then
    if eqI (v1.L.length : Int) 1 then
     if leI 0 v1.N then
      some (leI v1.N 1000)
     else
      some false
    else
     some false
   else
    some false : Option Bool).bind fun b75 =>
   some b75
  else
   ((zAn false true false v1).bind fun v81 =>
   if v81 then
    if eqI (v1.L.length : Int) 1 then
     (zBp fuel v1.S).bind fun v86 =>
     some v86
    else
     some false
   else
    some false : Option Bool).bind fun b89 =>
   some b89
 else if eqI v1.Op 5 then
  ((zAn false false false v1).bind fun v99 =>
  if v99 then
   some (eqI (v1.L.length : Int) 1)
  else
   some false : Option Bool).bind fun b102 =>
  some b102
 else if eqI v1.Op 6 then
  ((zAn false false false v1).bind fun v109 =>
  if v109 then
   some (eqI (v1.L.length : Int) 1)
  else
   some false : Option Bool).bind fun b112 =>
  some b112
 else if eqI v1.Op 7 then
  ((zAn false false false v1).bind fun v119 =>
  if v119 then
   some (eqI (v1.L.length : Int) 0)
  else
   some false : Option Bool).bind fun b122 =>
  some b122
 else
  some false
def zAI (F_value_right_1 : zHl → Int → Int → Option (Bool × Int)) (s1 : (List zHl)) (c2 : Int) : Nat → Int → Nat → Option ((Int × Int) ⊕ (Int))
 | 0, _, _ => none
 | k10 + 1, a4, i5 =>
  if ltI ((i5 : Nat) : Int) (s1.length : Int) then
   (s1[i5]?).bind fun x14 =>
   (F_value_right_1 x14 c2 a4).bind fun v16 =>
   if v16.1 then
    some (.inl (((i5 : Nat) : Int), v16.2))
   else
    zAI F_value_right_1 s1 c2 k10 v16.2 (i5 + 1)
  else
   some (.inr a4)
mutual
def zBT : Nat → zHl → Int → Int → Option (Bool × Int)
 | 0, _, _, _ => none
 | fuel + 1, x1, c2, c3 =>
  (chk .i64 (c2 - 1)).bind fun n4 =>
  ((zBg fuel) x1 n4 c3).bind fun v9 =>
  some (!v9.1, v9.2)
def zAZ : Nat → (List zHl) → Int → Int → Option (Int × Int)
 | 0, _, _, _ => none
 | fuel + 1, s1, c2, c3 =>
  (zAI (zBT fuel) s1 c2 fuel c3 0).bind fun o => Sum.elim some (fun o6 =>
   some ((-1), o6)) o
def zAU : Nat → (List zHl) → Int → Int → Option (Bool × Int)
 | 0, _, _, _ => none
 | fuel + 1, s1, c2, c3 =>
  ((zAZ fuel) s1 c2 c3).bind fun v4 =>
  some (leI 0 v4.1, v4.2)
def zBg : Nat → zHl → Int → Int → Option (Bool × Int)
 | 0, _, _, _ => none
 | fuel + 1, v1, depth2, c3 =>
  (chk .i64 (c3 - 1)).bind fun n4 =>
  (if ltI n4 0 then
   some true
  else if eqI depth2 0 then
   some true
  else
   (zC8 fuel v1).bind fun v15 =>
   some (!v15) : Option Bool).bind fun b17 =>
  if b17 then
   some (false, n4)
  else
   ((zAU fuel) v1.L depth2 n4).bind fun v20 =>
   some (!v20.1, v20.2)
end
def zBv (fuel : Nat) (v1 : zHl) : Option (Bool) :=
 (zBg fuel v1 400 20000).bind fun v2 =>
 some v2.1
def zBX (s1 : List (List UInt8)) : Option (List (List UInt8)) := match s1 with
 | [] => some []
 | x :: s => clC 16 (x :: s)
def zAp (F_pattern_copied : zHl → Option (zHl)) (v1 : zHl) : Nat → (List zHl) → Nat → Option ((List zHl))
 | 0, _, _ => none
 | k9 + 1, L4, i5 =>
  if ltI ((i5 : Nat) : Int) (v1.L.length : Int) then
   (v1.L[i5]?).bind fun x13 =>
   (F_pattern_copied x13).bind fun v15 =>
   (app 80 L4 [v15]).bind fun l17 =>
   zAp F_pattern_copied v1 k9 l17 (i5 + 1)
  else
   some L4
def zAr : Nat → zHl → Option (zHl)
 | 0, _ => none
 | fuel + 1, v1 =>
  (zBX v1.Names).bind fun v2 =>
  (zAp (zAr fuel) v1 fuel ([] : List zHl) 0).bind fun o6 =>
  some (zHl.mk v1.Op v1.N v1.S v2 o6)
def zB0 (n : Int) : Option (List UInt8) := if (Lib.itoa n).length ≤ 1000 then some (Lib.itoa n) else none
def zAg (l1 : (List (List UInt8))) : Nat → Nat → Option ((Bool) ⊕ (Unit))
 | 0, _ => none
 | k13 + 1, i8 =>
  if ltI ((i8 : Nat) : Int) (l1.length : Int) then
   (l1[i8]?).bind fun x17 =>
   (zB0 ((i8 + 1 : Nat) : Int)).bind fun v20 =>
   if !(eqS x17 v20) then
    some (.inl false)
   else
    zAg l1 k13 (i8 + 1)
  else
   some (.inr ())
def zBb (fuel : Nat) (l1 : (List (List UInt8))) (n2 : Int) : Option (Bool) :=
 if !(eqI (l1.length : Int) n2) then
  some false
 else
  (zAg l1 fuel 0).bind fun o => Sum.elim some (fun o9 =>
   some true) o
def zAS (F_pattern_match : zHm → zHl → (List zHl) → Option ((List zHl) × Bool × Bool)) (p1 : zHm) (v2 : zHl) : Nat → (List zHl) → Nat → Option (((List zHl) × Bool × Bool) ⊕ ((List zHl)))
 | 0, _, _ => none
 | k46 + 1, l40, i41 =>
  if ltI ((i41 : Nat) : Int) (p1.L.length : Int) then
   (p1.L[i41]?).bind fun x50 =>
   (v2.L[i41]?).bind fun x52 =>
   (F_pattern_match x50 x52 l40).bind fun v54 =>
   if !v54.2.1 then
    some (.inl (([] : List zHl), false, v54.2.2))
   else
    zAS F_pattern_match p1 v2 k46 v54.1 (i41 + 1)
  else
   some (.inr l40)
def zAQ : Nat → zHm → zHl → (List zHl) → Option ((List zHl) × Bool × Bool)
 | 0, _, _, _ => none
 | fuel + 1, p1, v2, l3 =>
  if eqI p1.Op 1 then
   some (l3, true, false)
  else if eqI p1.Op 2 then
   (zAr fuel v2).bind fun v9 =>
   (app 80 l3 [v9]).bind fun l11 =>
   some (l11, true, false)
  else if eqI p1.Op 3 then
   some (l3, (eqI v2.Op 1) && (eqI v2.N p1.N), !(eqI v2.Op 1))
  else if eqI p1.Op 5 then
   (if !(eqI v2.Op 3) then
    some true
   else if !(eqI (v2.L.length : Int) (p1.L.length : Int)) then
    some true
   else
    (zBb fuel v2.Names (p1.L.length : Int)).bind fun v35 =>
    some (!v35) : Option Bool).bind fun b37 =>
   if b37 then
    some (([] : List zHl), false, true)
   else
    (zAS (zAQ fuel) p1 v2 fuel l3 0).bind fun o => Sum.elim some (fun o42 =>
     some (o42, true, false)) o
  else
   (if !(eqI v2.Op 5) then
    some true
   else
    (v2.L[0]?).bind fun x71 =>
    if !(eqI x71.Op 4) then
     some true
    else
     some (eqS x71.S ([] : List UInt8)) : Option Bool).bind fun b78 =>
   if b78 then
    some (([] : List zHl), false, true)
   else
    (v2.L[0]?).bind fun x81 =>
    (x81.L[0]?).bind fun x83 =>
    if !(eqS x81.S p1.S) then
     some (([] : List zHl), false, false)
    else if eqI (p1.L.length : Int) 0 then
     some (l3, (eqI x83.Op 3) && (eqI (x83.L.length : Int) 0), !((eqI x83.Op 3) && (eqI (x83.L.length : Int) 0)))
    else
     (p1.L[0]?).bind fun x94 =>
     ((zAQ fuel) x94 x83 l3).bind fun v96 =>
     some (v96.1, v96.2.1, v96.2.2)
def zBH (fuel : Nat) (p1 : zHm) (v2 : zHl) : Option ((List zHl) × Bool × Int) :=
 ((zBV fuel p1).bind fun v3 =>
 if !v3 then
  some true
 else
  (zBv fuel v2).bind fun v8 =>
  some (!v8) : Option Bool).bind fun b10 =>
 if b10 then
  some (([] : List zHl), false, 1)
 else
  (zAQ fuel p1 v2 ([] : List zHl)).bind fun v13 =>
  if v13.2.2 then
   some (([] : List zHl), false, 12)
  else if !v13.2.1 then
   some (([] : List zHl), false, 0)
  else
   some (v13.1, true, 0)
def zBY (fuel : Nat) (p1 : zHm) (q2 : zHm) (s3 : zHm) (v4 : zHl) : Option (Bool) :=
 (zEH).bind fun v5 =>
 if !v5 then
  some false
 else
  ((zCj fuel p1).bind fun v10 =>
  if v10 then
   some true
  else
   (zCj fuel q2).bind fun v13 =>
   if v13 then
    some true
   else
    (zCj fuel s3).bind fun v16 =>
    if v16 then
     some true
    else
     (zDC fuel v4).bind fun v19 =>
     some v19 : Option Bool).bind fun b21 =>
  if b21 then
   some true
  else
   (zAe fuel p1 q2).bind fun v24 =>
   ((zCH fuel p1).bind fun v26 =>
   if !v26 then
    some true
   else
    (zCH fuel q2).bind fun v31 =>
    some (!v31) : Option Bool).bind fun b33 =>
   if b33 then
    some ((eqI v24.2 1) && (!v24.1))
   else
    (if !(eqI v24.2 0) then
     some true
    else
     (zBD fuel p1 q2).bind fun v44 =>
     some (!(eqB v24.1 v44)) : Option Bool).bind fun b46 =>
    if b46 then
     some false
    else
     (zAe fuel p1 p1).bind fun v49 =>
     if (!(eqI v49.2 0)) || (!v49.1) then
      some false
     else if !v24.1 then
      some true
     else
      (zBH fuel q2 v4).bind fun v65 =>
      if (eqI v65.2.2 0) && v65.2.1 then
       (zBH fuel p1 v4).bind fun v74 =>
       if (!(eqI v74.2.2 0)) || (!v74.2.1) then
        some false
       else
        (zAe fuel q2 s3).bind fun v87 =>
        if (!(eqI v87.2 0)) || (!v87.1) then
         some ((eqI v87.2 0) || (eqI v87.2 1))
        else
         (zAe fuel p1 s3).bind fun v103 =>
         some ((eqI v103.2 0) && v103.1)
      else
       (zAe fuel q2 s3).bind fun v111 =>
       if (!(eqI v111.2 0)) || (!v111.1) then
        some ((eqI v111.2 0) || (eqI v111.2 1))
       else
        (zAe fuel p1 s3).bind fun v127 =>
        some ((eqI v127.2 0) && v127.1)
def zEF (s t : List UInt8) : Option (List UInt8 × List UInt8 × Bool) := if s.length < 4294967281 then some (Lib.cut s t) else none
def zCY (s : List UInt8) (c : UInt8) : Option Int := some (Lib.indexByte s c)
def zDl (l : List (List UInt8)) (s : List UInt8) : Option (List UInt8) := if l.length ≤ 140737488355328 ∧ (Lib.join l s).length ≤ 140737488355328 then some (Lib.join l s) else none
def zDm (b : List UInt8) : Option (List UInt8) := some b
end Go.Proofs.YtlekkicnlddhlaaGreatDoor
