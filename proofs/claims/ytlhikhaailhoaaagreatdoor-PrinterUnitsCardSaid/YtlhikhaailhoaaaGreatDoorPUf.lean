/- For every input the law PrinterUnits returns true. Part 6 of 16. No condition. -/
import Derived.Test.YtlhikhaailhoaaaGreatDoorPUe
import Derived.Lib.Bytealg
import Derived.Lib.Join
import Derived.Lib.Fields
import Derived.Lib.ItoaNum
set_option linter.unusedVariables false
set_option linter.unnecessarySimpa false
set_option linter.unusedSimpArgs false
set_option maxRecDepth 100000
set_option maxHeartbeats 1000000
namespace Go.Proofs.YtlhikhaailhoaaaGreatDoor
open Go Go.Abs
def zD2 (n1 : Int) : Option (zJC) :=
 some (zJC.mk 21 n1 ([] : List UInt8) ([] : List (List UInt8)) ([] : List zJC))
def zFb (n1 : Int) (l2 : (List zJC)) : Option (zJC) :=
 some (zJC.mk 32 n1 ([] : List UInt8) ([] : List (List UInt8)) l2)
def zFm (s1 : (List UInt8)) : Option (zJC) :=
 some (zJC.mk 23 0 ([] : List UInt8) [s1] ([] : List zJC))
def zDM (op1 : Int) : Option (Int) :=
 if eqI op1 1 then
  some 1
 else if eqI op1 2 then
  some 1
 else if eqI op1 3 then
  some 1
 else if eqI op1 4 then
  some 1
 else if eqI op1 5 then
  some 1
 else if eqI op1 11 then
  some 2
 else if eqI op1 12 then
  some 2
 else if eqI op1 13 then
  some 2
 else if eqI op1 14 then
  some 2
 else if eqI op1 15 then
  some 2
 else if eqI op1 21 then
  some 3
 else if eqI op1 22 then
  some 3
 else if eqI op1 23 then
  some 3
 else if eqI op1 24 then
  some 3
 else if eqI op1 25 then
  some 3
 else if eqI op1 26 then
  some 3
 else if eqI op1 27 then
  some 3
 else if eqI op1 28 then
  some 3
 else if eqI op1 29 then
  some 3
 else if eqI op1 31 then
  some 3
 else if eqI op1 32 then
  some 3
 else if eqI op1 33 then
  some 3
 else if eqI op1 34 then
  some 3
 else if eqI op1 41 then
  some 4
 else if eqI op1 42 then
  some 4
 else if eqI op1 43 then
  some 4
 else if eqI op1 44 then
  some 4
 else if eqI op1 46 then
  some 4
 else if eqI op1 47 then
  some 4
 else if eqI op1 48 then
  some 4
 else if eqI op1 49 then
  some 4
 else if eqI op1 50 then
  some 4
 else if eqI op1 61 then
  some 5
 else if eqI op1 62 then
  some 5
 else if eqI op1 63 then
  some 5
 else if eqI op1 64 then
  some 5
 else if eqI op1 65 then
  some 5
 else if eqI op1 66 then
  some 5
 else if eqI op1 71 then
  some 6
 else if eqI op1 72 then
  some 6
 else if eqI op1 73 then
  some 6
 else if eqI op1 74 then
  some 6
 else if eqI op1 81 then
  some 7
 else if eqI op1 82 then
  some 7
 else if eqI op1 83 then
  some 7
 else if eqI op1 84 then
  some 7
 else if eqI op1 85 then
  some 7
 else if eqI op1 86 then
  some 7
 else if eqI op1 87 then
  some 7
 else if eqI op1 88 then
  some 7
 else
  some 0
def zBU (cat1 : Int) (t2 : zJC) : Option (Bool) :=
 if (eqI cat1 5) && ((eqI t2.Op 43) || (eqI t2.Op 44)) then
  some true
 else
  (if !(eqI cat1 0) then
   (zDM t2.Op).bind fun v16 =>
   some (eqI v16 cat1)
  else
   some false : Option Bool).bind fun b20 =>
  some b20
def zAS (op1 : Int) : Option (zJA) :=
 if eqI op1 13 then
  some (zJA.mk true false false)
 else if eqI op1 21 then
  some (zJA.mk true false false)
 else if eqI op1 32 then
  some (zJA.mk true false false)
 else if eqI op1 1 then
  some (zJA.mk false true false)
 else if eqI op1 12 then
  some (zJA.mk false true false)
 else if eqI op1 22 then
  some (zJA.mk false true false)
 else if eqI op1 25 then
  some (zJA.mk false true false)
 else if eqI op1 41 then
  some (zJA.mk false true false)
 else if eqI op1 45 then
  some (zJA.mk false true false)
 else if eqI op1 46 then
  some (zJA.mk false true false)
 else if eqI op1 47 then
  some (zJA.mk false true false)
 else if eqI op1 50 then
  some (zJA.mk false true false)
 else if eqI op1 61 then
  some (zJA.mk false true false)
 else if eqI op1 63 then
  some (zJA.mk false true false)
 else if eqI op1 64 then
  some (zJA.mk false true false)
 else if eqI op1 2 then
  some (zJA.mk false false true)
 else if eqI op1 5 then
  some (zJA.mk false false true)
 else if eqI op1 14 then
  some (zJA.mk false false true)
 else if eqI op1 23 then
  some (zJA.mk false false true)
 else if eqI op1 24 then
  some (zJA.mk false false true)
 else if eqI op1 34 then
  some (zJA.mk false false true)
 else if eqI op1 48 then
  some (zJA.mk false false true)
 else if eqI op1 49 then
  some (zJA.mk false false true)
 else if eqI op1 66 then
  some (zJA.mk false false true)
 else if eqI op1 72 then
  some (zJA.mk false false true)
 else if eqI op1 74 then
  some (zJA.mk false false true)
 else if eqI op1 82 then
  some (zJA.mk false false true)
 else if eqI op1 42 then
  some (zJA.mk false true true)
 else if eqI op1 43 then
  some (zJA.mk false true true)
 else if eqI op1 44 then
  some (zJA.mk false true true)
 else if eqI op1 62 then
  some (zJA.mk false true true)
 else if eqI op1 73 then
  some (zJA.mk true true false)
 else if eqI op1 83 then
  some (zJA.mk true true false)
 else
  some (zJA.mk false false false)
def zCe (s1 : (List UInt8)) (prefix2 : (List UInt8)) : Option (Bool) :=
 (if leI (prefix2.length : Int) (s1.length : Int) then
  (subC s1 0 (prefix2.length : Int)).bind fun s7 =>
  some (eqS s7 prefix2)
 else
  some false : Option Bool).bind fun b14 =>
 some b14
def zDJ (s1 : (List UInt8)) (prefix2 : (List UInt8)) : Option ((List UInt8) × Bool) :=
 (zCe s1 prefix2).bind fun v3 =>
 if !v3 then
  some (s1, false)
 else
  (subC s1 (prefix2.length : Int) (s1.length : Int)).bind fun s8 =>
  some (s8, true)
def zDj (s1 : (List UInt8)) (prefix2 : (List UInt8)) : Option ((List UInt8) × Bool) :=
 (zDJ s1 prefix2).bind fun v3 =>
 some (v3.1, v3.2)
def zE5 (c1 : UInt8) : Option (Int) :=
 if (leI 97 (c1.toNat : Int)) && (leI (c1.toNat : Int) 122) then
  some 1
 else if (leI 65 (c1.toNat : Int)) && (leI (c1.toNat : Int) 90) then
  some 2
 else if (leI 48 (c1.toNat : Int)) && (leI (c1.toNat : Int) 57) then
  some 3
 else if eqI (c1.toNat : Int) 95 then
  some 4
 else if eqI (c1.toNat : Int) 46 then
  some 5
 else
  some 0
def zDG (l16 : (List UInt8)) : Nat → Nat → Option ((Bool) ⊕ (Unit))
 | 0, _ => none
 | k25 + 1, i20 =>
  if ltI ((i20 : Nat) : Int) (l16.length : Int) then
   (l16[i20]?).bind fun x29 =>
   (zE5 x29).bind fun v31 =>
   if (eqI v31 0) || (eqI v31 5) then
    some (.inl false)
   else
    zDG l16 k25 (i20 + 1)
  else
   some (.inr ())
def zDS (fuel : Nat) (s1 : (List UInt8)) (first2 : Int) : Option (Bool) :=
 (if eqS s1 ([] : List UInt8) then
  some true
 else if ltI 24 (s1.length : Int) then
  some true
 else
  (s1[0]?).bind fun c9 =>
  (zE5 c9).bind fun v11 =>
  some (!(eqI v11 first2)) : Option Bool).bind fun b13 =>
 if b13 then
  some false
 else
  (bytesC s1).bind fun l16 =>
  (zDG l16 fuel 0).bind fun o => Sum.elim some (fun o21 =>
   some true) o
def zDs (fuel : Nat) (s1 : (List UInt8)) : Option (Bool) :=
 (zDj s1 [39]).bind fun v2 =>
 (if v2.2 then
  if leI (s1.length : Int) 24 then
   (zDS fuel v2.1 1).bind fun v8 =>
   some v8
  else
   some false
 else
  some false : Option Bool).bind fun b12 =>
 some b12
def zBP (fuel : Nat) (s1 : (List UInt8)) : Option (Bool) :=
 (zDS fuel s1 2).bind fun v2 =>
 some v2
def zEB (fuel : Nat) (s1 : (List UInt8)) : Option (Bool) :=
 (zBP fuel s1).bind fun v2 =>
 some (!v2)
def zAw (fuel : Nat) (s1 : (List (List UInt8))) : Nat → Nat → Option ((Int) ⊕ (Unit))
 | 0, _ => none
 | k7 + 1, i2 =>
  if ltI ((i2 : Nat) : Int) (s1.length : Int) then
   (s1[i2]?).bind fun x11 =>
   (zEB fuel x11).bind fun v13 =>
   if v13 then
    some (.inl ((i2 : Nat) : Int))
   else
    zAw fuel s1 k7 (i2 + 1)
  else
   some (.inr ())
def zCC (fuel : Nat) (s1 : (List (List UInt8))) : Option (Int) :=
 (zAw fuel s1 fuel 0).bind fun o => Sum.elim some (fun o3 =>
  some (-1)) o
def zBY (fuel : Nat) (s1 : (List (List UInt8))) : Option (Bool) :=
 (zCC fuel s1).bind fun v2 =>
 some (leI 0 v2)
def zDo (s : List UInt8) : Option (List (List UInt8)) := if s.length < 4294967281 ∧ s.all (fun c => decide (c.toNat < 128)) = true ∧ (Lib.fields s).length ≤ 100000 ∧ (Lib.fields s).all (fun z => decide (z.length ≤ 100000)) = true then some (Lib.fields s) else none
def zBZ (s1 : (List (List UInt8))) (v2 : (List UInt8)) : Nat → Nat → Option ((Int) ⊕ (Unit))
 | 0, _ => none
 | k8 + 1, i3 =>
  if ltI ((i3 : Nat) : Int) (s1.length : Int) then
   (s1[i3]?).bind fun x12 =>
   if eqS v2 x12 then
    some (.inl ((i3 : Nat) : Int))
   else
    zBZ s1 v2 k8 (i3 + 1)
  else
   some (.inr ())
def zDU (fuel : Nat) (s1 : (List (List UInt8))) (v2 : (List UInt8)) : Option (Int) :=
 (zBZ s1 v2 fuel 0).bind fun o => Sum.elim some (fun o4 =>
  some (-1)) o
def zBa (fuel : Nat) (s1 : (List (List UInt8))) (v2 : (List UInt8)) : Option (Bool) :=
 (zDU fuel s1 v2).bind fun v3 =>
 some (leI 0 v3)
def zFG (fuel : Nat) (s1 : (List UInt8)) : Option (Bool) :=
 (zDo [97, 110, 100, 97, 108, 115, 111, 32, 99, 97, 115, 101, 32, 100, 97, 116, 97, 32, 100, 105, 118, 32, 101, 108, 115, 101, 32, 101, 110, 100, 32, 102, 110, 32, 102, 117, 110, 32, 102, 117, 110, 99, 116, 111, 114, 32, 103, 101, 110, 101, 114, 97, 116, 105, 118, 101, 32, 105, 102, 32, 105, 109, 112, 111, 114, 116, 32, 105, 110, 32, 105, 110, 99, 108, 117, 100, 101, 32, 108, 101, 116, 32, 109, 111, 100, 32, 109, 111, 100, 117, 108, 101, 32, 111, 102, 32, 111, 112, 101, 110, 32, 111, 114, 101, 108, 115, 101, 32, 112, 97, 99, 107, 32, 115, 104, 97, 114, 105, 110, 103, 32, 115, 105, 103, 32, 115, 105, 103, 110, 97, 116, 117, 114, 101, 32, 115, 116, 114, 117, 99, 116, 32, 115, 116, 114, 117, 99, 116, 117, 114, 101, 32, 116, 104, 101, 110, 32, 116, 121, 112, 101, 32, 117, 110, 112, 97, 99, 107, 32, 118, 97, 108, 32, 119, 105, 116, 104]).bind fun v2 =>
 (zBa fuel v2 s1).bind fun v4 =>
 some v4
def zBd (fuel : Nat) (s1 : (List UInt8)) : Option (Bool) :=
 ((zDS fuel s1 1).bind fun v2 =>
 if v2 then
  (zFG fuel s1).bind fun v5 =>
  some (!v5)
 else
  some false : Option Bool).bind fun b7 =>
 some b7
def zBo (fuel : Nat) (l1 : (List (List UInt8))) (lower2 : Bool) : Option (Bool) :=
 if (ltI (l1.length : Int) 1) || (ltI 8 (l1.length : Int)) then
  some false
 else
  (subC l1 0 ((l1.length : Int) - 1)).bind fun l15 =>
  (zBY fuel l15).bind fun v19 =>
  if v19 then
   some false
  else if lower2 then
   (idx l1 ((l1.length : Int) - 1)).bind fun x23 =>
   (zBd fuel x23).bind fun v27 =>
   some v27
  else
   (idx l1 ((l1.length : Int) - 1)).bind fun x30 =>
   (zBP fuel x30).bind fun v34 =>
   some v34
def zCX (s1 : (List UInt8)) : Nat → Nat → Option ((Bool) ⊕ (Unit))
 | 0, _ => none
 | k7 + 1, i2 =>
  if ltI ((i2 : Nat) : Int) (s1.length : Int) then
   ((s1[i2]?).bind fun c11 =>
   if !(eqI (c11.toNat : Int) 10) then
    if ltI (c11.toNat : Int) 32 then
     some true
    else
     some (ltI 126 (c11.toNat : Int))
   else
    some false : Option Bool).bind fun b21 =>
   if b21 then
    some (.inl false)
   else
    zCX s1 k7 (i2 + 1)
  else
   some (.inr ())
def zDx (fuel : Nat) (s1 : (List UInt8)) : Option (Bool) :=
 (zCX s1 fuel 0).bind fun o => Sum.elim some (fun o3 =>
  some (leI (s1.length : Int) 16384)) o
def zEh (fuel : Nat) (s1 : (List UInt8)) : Option (Bool) :=
 (zBd fuel s1).bind fun v2 =>
 some (!v2)
def zAy (fuel : Nat) (s1 : (List (List UInt8))) : Nat → Nat → Option ((Int) ⊕ (Unit))
 | 0, _ => none
 | k7 + 1, i2 =>
  if ltI ((i2 : Nat) : Int) (s1.length : Int) then
   (s1[i2]?).bind fun x11 =>
   (zEh fuel x11).bind fun v13 =>
   if v13 then
    some (.inl ((i2 : Nat) : Int))
   else
    zAy fuel s1 k7 (i2 + 1)
  else
   some (.inr ())
def zCH (fuel : Nat) (s1 : (List (List UInt8))) : Option (Int) :=
 (zAy fuel s1 fuel 0).bind fun o => Sum.elim some (fun o3 =>
  some (-1)) o
def zBI (fuel : Nat) (s1 : (List (List UInt8))) : Option (Bool) :=
 (zCH fuel s1).bind fun v2 =>
 some (leI 0 v2)
def zCP (fuel : Nat) (l1 : (List (List UInt8))) : Nat → Nat → Option ((Bool) ⊕ (Unit))
 | 0, _ => none
 | k7 + 1, i2 =>
  if ltI ((i2 : Nat) : Int) (l1.length : Int) then
   (l1[i2]?).bind fun x11 =>
   ((zDs fuel x11).bind fun v13 =>
   if !v13 then
    some true
   else
    (subC l1 0 ((i2 : Nat) : Int)).bind fun l18 =>
    (zBa fuel l18 x11).bind fun v22 =>
    some v22 : Option Bool).bind fun b24 =>
   if b24 then
    some (.inl false)
   else
    zCP fuel l1 k7 (i2 + 1)
  else
   some (.inr ())
def zCg (fuel : Nat) (l1 : (List (List UInt8))) : Option (Bool) :=
 (zCP fuel l1 fuel 0).bind fun o => Sum.elim some (fun o3 =>
  some (leI (l1.length : Int) 4)) o
def zAZ (fuel : Nat) (t1 : zJC) (inWith2 : Bool) : Option (Bool) :=
 (zAS t1.Op).bind fun v3 =>
 if if !v3.n then (!(eqI t1.N 0)) || (if !v3.s then (!(eqS t1.S ([] : List UInt8))) || ((!v3.names) && (ltI 0 (t1.Names.length : Int))) else (!v3.names) && (ltI 0 (t1.Names.length : Int))) else if !v3.s then (!(eqS t1.S ([] : List UInt8))) || ((!v3.names) && (ltI 0 (t1.Names.length : Int))) else (!v3.names) && (ltI 0 (t1.Names.length : Int)) then
  some false
 else if eqI t1.Op 1 then
  (zDs fuel t1.S).bind fun v40 =>
  some v40
 else if eqI t1.Op 2 then
  (zBo fuel t1.Names true).bind fun v46 =>
  some v46
 else if eqI t1.Op 23 then
  (zBo fuel t1.Names true).bind fun v52 =>
  some v52
 else if eqI t1.Op 66 then
  (zBo fuel t1.Names true).bind fun v58 =>
  some v58
 else if eqI t1.Op 74 then
  (zBo fuel t1.Names true).bind fun v64 =>
  some v64
 else if eqI t1.Op 5 then
  (zBo fuel t1.Names false).bind fun v70 =>
  some v70
 else if eqI t1.Op 14 then
  (zBo fuel t1.Names false).bind fun v76 =>
  some v76
 else if eqI t1.Op 24 then
  (zBo fuel t1.Names false).bind fun v82 =>
  some v82
 else if eqI t1.Op 34 then
  (zBo fuel t1.Names false).bind fun v88 =>
  some v88
 else if eqI t1.Op 48 then
  (zBo fuel t1.Names false).bind fun v94 =>
  some v94
 else if eqI t1.Op 49 then
  (zBo fuel t1.Names false).bind fun v100 =>
  some v100
 else if eqI t1.Op 72 then
  (zBo fuel t1.Names false).bind fun v106 =>
  some v106
 else if eqI t1.Op 82 then
  (zBo fuel t1.Names false).bind fun v112 =>
  some v112
 else if eqI t1.Op 12 then
  (zBd fuel t1.S).bind fun v118 =>
  some v118
 else if eqI t1.Op 41 then
  (zBd fuel t1.S).bind fun v124 =>
  some v124
 else if eqI t1.Op 61 then
  (zBd fuel t1.S).bind fun v130 =>
  some v130
 else if eqI t1.Op 13 then
  some ((leI (-4503599627370496) t1.N) && (leI t1.N 4503599627370496))
 else if eqI t1.Op 21 then
  some ((leI 0 t1.N) && (leI t1.N 4503599627370496))
 else if eqI t1.Op 22 then
  (zDx fuel t1.S).bind fun v148 =>
  some v148
 else if eqI t1.Op 25 then
  (if eqS t1.S ([] : List UInt8) then
   some true
  else
   (zBd fuel t1.S).bind fun v155 =>
   some v155 : Option Bool).bind fun b157 =>
  some b157
 else if eqI t1.Op 32 then
  some ((leI 1 t1.N) && (leI t1.N 12))
 else if eqI t1.Op 42 then
  ((zBd fuel t1.S).bind fun v169 =>
  if v169 then
   if leI 1 (t1.Names.length : Int) then
    if leI (t1.Names.length : Int) 9 then
     (zBI fuel t1.Names).bind fun v177 =>
     some (!v177)
    else
     some false
   else
    some false
  else
   some false : Option Bool).bind fun b182 =>
  some b182
 else if eqI t1.Op 43 then
  (if inWith2 then
   if eqS t1.S ([] : List UInt8) then
    (zCg fuel t1.Names).bind fun v194 =>
    some v194
   else
    some false
  else
   (zBd fuel t1.S).bind fun v196 =>
   if v196 then
    (zCg fuel t1.Names).bind fun v199 =>
    some v199
   else
    some false : Option Bool).bind fun b201 =>
  some b201
 else if eqI t1.Op 44 then
  ((zBd fuel t1.S).bind fun v210 =>
  if v210 then
   (zCg fuel t1.Names).bind fun v213 =>
   some v213
  else
   some false : Option Bool).bind fun b215 =>
  some b215
 else if eqI t1.Op 62 then
  ((zBd fuel t1.S).bind fun v223 =>
  if v223 then
   (zCg fuel t1.Names).bind fun v226 =>
   some v226
  else
   some false : Option Bool).bind fun b228 =>
  some b228
 else if eqI t1.Op 45 then
  (zBP fuel t1.S).bind fun v236 =>
  some v236
 else if eqI t1.Op 46 then
  (zBP fuel t1.S).bind fun v242 =>
  some v242
 else if eqI t1.Op 47 then
  (zBP fuel t1.S).bind fun v248 =>
  some v248
 else if eqI t1.Op 50 then
  (zBP fuel t1.S).bind fun v254 =>
  some v254
 else if eqI t1.Op 63 then
  (zBP fuel t1.S).bind fun v260 =>
  some v260
 else if eqI t1.Op 64 then
  (zBP fuel t1.S).bind fun v266 =>
  some v266
 else if eqI t1.Op 73 then
  ((zBP fuel t1.S).bind fun v272 =>
  if v272 then
   if eqI t1.N 0 then
    some true
   else
    some (eqI t1.N 1)
  else
   some false : Option Bool).bind fun b278 =>
  some b278
 else if eqI t1.Op 83 then
  ((zBP fuel t1.S).bind fun v286 =>
  if v286 then
   if eqI t1.N 0 then
    some true
   else
    some (eqI t1.N 1)
  else
   some false : Option Bool).bind fun b292 =>
  some b292
 else
  some true
def zED (x1 : zJC) (c2 : Int) : Option (Bool) :=
 (zBU c2 x1).bind fun v3 =>
 some (!v3)
def zAr (s1 : (List zJC)) (c2 : Int) : Nat → Nat → Option ((Int) ⊕ (Unit))
 | 0, _ => none
 | k8 + 1, i3 =>
  if ltI ((i3 : Nat) : Int) (s1.length : Int) then
   (s1[i3]?).bind fun x12 =>
   (zED x12 c2).bind fun v14 =>
   if v14 then
    some (.inl ((i3 : Nat) : Int))
   else
    zAr s1 c2 k8 (i3 + 1)
  else
   some (.inr ())
def zB5 (fuel : Nat) (s1 : (List zJC)) (c2 : Int) : Option (Int) :=
 (zAr s1 c2 fuel 0).bind fun o => Sum.elim some (fun o4 =>
  some (-1)) o
def zBW (fuel : Nat) (s1 : (List zJC)) (c2 : Int) : Option (Bool) :=
 (zB5 fuel s1 c2).bind fun v3 =>
 some (leI 0 v3)
def zCG (fuel : Nat) (l1 : (List zJC)) (cat2 : Int) (least3 : Int) (most4 : Int) : Option (Bool) :=
 (if leI least3 (l1.length : Int) then
  if leI (l1.length : Int) most4 then
   (zBW fuel l1 cat2).bind fun v10 =>
   some (!v10)
  else
   some false
 else
  some false : Option Bool).bind fun b15 =>
 some b15
def zCY (t1 : zJC) (cats2 : (List Int)) : Nat → Nat → Option ((Bool) ⊕ (Unit))
 | 0, _ => none
 | k13 + 1, i8 =>
  if ltI ((i8 : Nat) : Int) (cats2.length : Int) then
   (cats2[i8]?).bind fun x17 =>
   (t1.L[i8]?).bind fun x19 =>
   (zBU x17 x19).bind fun v21 =>
   if !v21 then
    some (.inl false)
   else
    zCY t1 cats2 k13 (i8 + 1)
  else
   some (.inr ())
def zAu (fuel : Nat) (t1 : zJC) (cats2 : (List Int)) : Option (Bool) :=
 if !(eqI (t1.L.length : Int) (cats2.length : Int)) then
  some false
 else
  (zCY t1 cats2 fuel 0).bind fun o => Sum.elim some (fun o9 =>
   some true) o
def zBu (s1 : (List Int)) (v2 : Int) : Nat → Nat → Option ((Int) ⊕ (Unit))
 | 0, _ => none
 | k8 + 1, i3 =>
  if ltI ((i3 : Nat) : Int) (s1.length : Int) then
   (s1[i3]?).bind fun x12 =>
   if eqI v2 x12 then
    some (.inl ((i3 : Nat) : Int))
   else
    zBu s1 v2 k8 (i3 + 1)
  else
   some (.inr ())
def zD1 (fuel : Nat) (s1 : (List Int)) (v2 : Int) : Option (Int) :=
 (zBu s1 v2 fuel 0).bind fun o => Sum.elim some (fun o4 =>
  some (-1)) o
def zCz (fuel : Nat) (s1 : (List Int)) (v2 : Int) : Option (Bool) :=
 (zD1 fuel s1 v2).bind fun v3 =>
 some (leI 0 v3)
def zEC (fuel : Nat) (x1 : zJC) (c2 : (List Int)) : Option (Bool) :=
 (zCz fuel c2 x1.Op).bind fun v3 =>
 some (!v3)
def zAq (fuel : Nat) (s1 : (List zJC)) (c2 : (List Int)) : Nat → Nat → Option ((Int) ⊕ (Unit))
 | 0, _ => none
 | k8 + 1, i3 =>
  if ltI ((i3 : Nat) : Int) (s1.length : Int) then
   (s1[i3]?).bind fun x12 =>
   (zEC fuel x12 c2).bind fun v14 =>
   if v14 then
    some (.inl ((i3 : Nat) : Int))
   else
    zAq fuel s1 c2 k8 (i3 + 1)
  else
   some (.inr ())
def zB4 (fuel : Nat) (s1 : (List zJC)) (c2 : (List Int)) : Option (Int) :=
 (zAq fuel s1 c2 fuel 0).bind fun o => Sum.elim some (fun o4 =>
  some (-1)) o
def zBV (fuel : Nat) (s1 : (List zJC)) (c2 : (List Int)) : Option (Bool) :=
 (zB4 fuel s1 c2).bind fun v3 =>
 some (leI 0 v3)
def zCQ (fuel : Nat) (l1 : (List zJC)) (ops2 : (List Int)) : Option (Bool) :=
 (zBV fuel l1 ops2).bind fun v3 =>
 some (!v3)
def zEH (y1 : zJC) (w2 : zJC) : Option (Bool) :=
 some (eqS w2.S y1.S)
def zAk (s1 : (List zJC)) (w2 : zJC) : Nat → Nat → Option ((Int) ⊕ (Unit))
 | 0, _ => none
 | k8 + 1, i3 =>
  if ltI ((i3 : Nat) : Int) (s1.length : Int) then
   (s1[i3]?).bind fun x12 =>
   (zEH x12 w2).bind fun v14 =>
   if v14 then
    some (.inl ((i3 : Nat) : Int))
   else
    zAk s1 w2 k8 (i3 + 1)
  else
   some (.inr ())
def zBt (fuel : Nat) (s1 : (List zJC)) (w2 : zJC) : Option (Int) :=
 (zAk s1 w2 fuel 0).bind fun o => Sum.elim some (fun o4 =>
  some (-1)) o
def zBL (fuel : Nat) (s1 : (List zJC)) (w2 : zJC) : Option (Bool) :=
 (zBt fuel s1 w2).bind fun v3 =>
 some (leI 0 v3)
def zCR (fuel : Nat) (l1 : (List zJC)) : Nat → Nat → Option ((Bool) ⊕ (Unit))
 | 0, _ => none
 | k7 + 1, i2 =>
  if ltI ((i2 : Nat) : Int) (l1.length : Int) then
   (l1[i2]?).bind fun x11 =>
   (subC l1 0 ((i2 : Nat) : Int)).bind fun l13 =>
   (zBL fuel l13 x11).bind fun v17 =>
   if v17 then
    some (.inl false)
   else
    zCR fuel l1 k7 (i2 + 1)
  else
   some (.inr ())
def zDf (fuel : Nat) (l1 : (List zJC)) : Option (Bool) :=
 (zCR fuel l1 fuel 0).bind fun o => Sum.elim some (fun o3 =>
  some true) o
def zAV (fuel : Nat) (t1 : zJC) : Option (Bool) :=
 if eqI t1.Op 1 then
  some (eqI (t1.L.length : Int) 0)
 else if eqI t1.Op 5 then
  some (eqI (t1.L.length : Int) 0)
 else if eqI t1.Op 11 then
  some (eqI (t1.L.length : Int) 0)
 else if eqI t1.Op 12 then
  some (eqI (t1.L.length : Int) 0)
 else if eqI t1.Op 13 then
  some (eqI (t1.L.length : Int) 0)
 else if eqI t1.Op 21 then
  some (eqI (t1.L.length : Int) 0)
 else if eqI t1.Op 22 then
  some (eqI (t1.L.length : Int) 0)
 else if eqI t1.Op 23 then
  some (eqI (t1.L.length : Int) 0)
 else if eqI t1.Op 24 then
  some (eqI (t1.L.length : Int) 0)
 else if eqI t1.Op 48 then
  some (eqI (t1.L.length : Int) 0)
 else if eqI t1.Op 49 then
  some (eqI (t1.L.length : Int) 0)
 else if eqI t1.Op 62 then
  some (eqI (t1.L.length : Int) 0)
 else if eqI t1.Op 72 then
  some (eqI (t1.L.length : Int) 0)
 else if eqI t1.Op 82 then
  some (eqI (t1.L.length : Int) 0)
 else if eqI t1.Op 2 then
  (zCG fuel t1.L 1 0 4).bind fun v46 =>
  some v46
 else if eqI t1.Op 3 then
  (some [1, 1]).bind fun l52 =>
  (zAu fuel t1 l52).bind fun v56 =>
  some v56
 else if eqI t1.Op 4 then
  (zCG fuel t1.L 1 2 9).bind fun v62 =>
  some v62
 else if eqI t1.Op 14 then
  (zCG fuel t1.L 2 0 1).bind fun v68 =>
  some v68
 else if eqI t1.Op 15 then
  (if !(eqI (t1.L.length : Int) 1) then
   (zCG fuel t1.L 2 0 9).bind fun v77 =>
   some v77
  else
   some false : Option Bool).bind fun b81 =>
  some b81
 else if eqI t1.Op 25 then
  (zAu fuel t1 [3]).bind fun v87 =>
  some v87
 else if eqI t1.Op 41 then
  (zAu fuel t1 [3]).bind fun v93 =>
  some v93
 else if eqI t1.Op 42 then
  (zAu fuel t1 [3]).bind fun v99 =>
  some v99
 else if eqI t1.Op 26 then
  (some [3, 3]).bind fun l105 =>
  (zAu fuel t1 l105).bind fun v109 =>
  some v109
 else if eqI t1.Op 27 then
  (if !(eqI (t1.L.length : Int) 1) then
   (zCG fuel t1.L 3 0 9).bind fun v118 =>
   some v118
  else
   some false : Option Bool).bind fun b122 =>
  some b122
 else if eqI t1.Op 28 then
  (some [3, 3, 3]).bind fun l128 =>
  (zAu fuel t1 l128).bind fun v132 =>
  some v132
 else if eqI t1.Op 29 then
  (if leI 2 (t1.L.length : Int) then
   (t1.L[0]?).bind fun x141 =>
   (zBU 3 x141).bind fun v143 =>
   if v143 then
    (subC t1.L 1 (t1.L.length : Int)).bind fun l146 =>
    (zCQ fuel l146 [30]).bind fun v150 =>
    some v150
   else
    some false
  else
   some false : Option Bool).bind fun b154 =>
  some b154
 else if eqI t1.Op 30 then
  (some [2, 3]).bind fun l162 =>
  (zAu fuel t1 l162).bind fun v166 =>
  some v166
 else if eqI t1.Op 31 then
  (if leI 1 (t1.L.length : Int) then
   (idx t1.L ((t1.L.length : Int) - 1)).bind fun x176 =>
   (zBU 3 x176).bind fun v180 =>
   if v180 then
    (subC t1.L 0 ((t1.L.length : Int) - 1)).bind fun l184 =>
    (some [41, 42, 50]).bind fun l188 =>
    (zCQ fuel l184 l188).bind fun v192 =>
    some v192
   else
    some false
  else
   some false : Option Bool).bind fun b196 =>
  some b196
 else if eqI t1.Op 32 then
  if eqI t1.N 12 then
   (zAu fuel t1 [3]).bind fun v206 =>
   some v206
  else
   (some [3, 3]).bind fun l210 =>
   (zAu fuel t1 l210).bind fun v214 =>
   some v214
 else if eqI t1.Op 33 then
  (some [3, 1]).bind fun l220 =>
  (zAu fuel t1 l220).bind fun v224 =>
  some v224
 else if eqI t1.Op 34 then
  (if eqI (t1.L.length : Int) 1 then
   (zCQ fuel t1.L [72]).bind fun v232 =>
   some v232
  else
   some false : Option Bool).bind fun b235 =>
  some b235
 else if eqI t1.Op 43 then
  (zAu fuel t1 [1]).bind fun v241 =>
  some v241
 else if eqI t1.Op 61 then
  (zAu fuel t1 [1]).bind fun v247 =>
  some v247
 else if eqI t1.Op 44 then
  (if leI 1 (t1.L.length : Int) then
   (zCQ fuel t1.L [45]).bind fun v256 =>
   if v256 then
    (zDf fuel t1.L).bind fun v259 =>
    some v259
   else
    some false
  else
   some false : Option Bool).bind fun b263 =>
  some b263
 else if eqI t1.Op 45 then
  (zCG fuel t1.L 1 0 1).bind fun v271 =>
  some v271
 else if eqI t1.Op 46 then
  (zAu fuel t1 [7]).bind fun v277 =>
  some v277
 else if eqI t1.Op 47 then
  (zAu fuel t1 [6]).bind fun v283 =>
  some v283
 else if eqI t1.Op 63 then
  (zAu fuel t1 [6]).bind fun v289 =>
  some v289
 else if eqI t1.Op 64 then
  (zAu fuel t1 [6]).bind fun v295 =>
  some v295
 else if eqI t1.Op 65 then
  (zAu fuel t1 [6]).bind fun v301 =>
  some v301
 else if eqI t1.Op 50 then
  (if eqI (t1.L.length : Int) 2 then
   (t1.L[0]?).bind fun x309 =>
   (zBU 3 x309).bind fun v311 =>
   if v311 then
    (subC t1.L 1 (t1.L.length : Int)).bind fun l314 =>
    (zCQ fuel l314 [72]).bind fun v318 =>
    some v318
   else
    some false
  else
   some false : Option Bool).bind fun b321 =>
  some b321
 else if eqI t1.Op 88 then
  (if eqI (t1.L.length : Int) 2 then
   (t1.L[0]?).bind fun x331 =>
   (zBU 3 x331).bind fun v333 =>
   if v333 then
    (subC t1.L 1 (t1.L.length : Int)).bind fun l336 =>
    (zCQ fuel l336 [72]).bind fun v340 =>
    some v340
   else
    some false
  else
   some false : Option Bool).bind fun b343 =>
  some b343
 else if eqI t1.Op 66 then
  (if eqI (t1.L.length : Int) 1 then
   (zCQ fuel t1.L [2]).bind fun v353 =>
   if v353 then
    (t1.L[0]?).bind fun x356 =>
    some (eqI (x356.L.length : Int) 0)
   else
    some false
  else
   some false : Option Bool).bind fun b359 =>
  some b359
 else if eqI t1.Op 71 then
  (zCG fuel t1.L 5 0 (t1.L.length : Int)).bind fun v366 =>
  some v366
 else if eqI t1.Op 73 then
  (some [6, 6]).bind fun l372 =>
  (zAu fuel t1 l372).bind fun v376 =>
  some v376
 else if eqI t1.Op 74 then
  (if eqI (t1.L.length : Int) 2 then
   (t1.L[0]?).bind fun x384 =>
   (zBU 6 x384).bind fun v386 =>
   if v386 then
    (subC t1.L 1 (t1.L.length : Int)).bind fun l389 =>
    (zCQ fuel l389 [43]).bind fun v393 =>
    some v393
   else
    some false
  else
   some false : Option Bool).bind fun b396 =>
  some b396
 else if eqI t1.Op 81 then
  (zCG fuel t1.L 4 0 (t1.L.length : Int)).bind fun v404 =>
  some v404
 else if eqI t1.Op 83 then
  (some [6, 7]).bind fun l410 =>
  (zAu fuel t1 l410).bind fun v414 =>
  some v414
 else if eqI t1.Op 84 then
  (some [7, 7]).bind fun l420 =>
  (zAu fuel t1 l420).bind fun v424 =>
  some v424
 else if eqI t1.Op 85 then
  (some [7, 6]).bind fun l430 =>
  (zAu fuel t1 l430).bind fun v434 =>
  some v434
 else if eqI t1.Op 86 then
  (some [7, 6]).bind fun l440 =>
  (zAu fuel t1 l440).bind fun v444 =>
  some v444
 else if eqI t1.Op 87 then
  (if leI 1 (t1.L.length : Int) then
   (idx t1.L ((t1.L.length : Int) - 1)).bind fun x454 =>
   (zBU 7 x454).bind fun v458 =>
   if v458 then
    (subC t1.L 0 ((t1.L.length : Int) - 1)).bind fun l462 =>
    (zCG fuel l462 4 0 (t1.L.length : Int)).bind fun v466 =>
    some v466
   else
    some false
  else
   some false : Option Bool).bind fun b470 =>
  some b470
 else
  some false
def zAi (F_syntax_formed_1_1 : zJC → Int → zJC → Int → Option (Bool × Int)) (s1 : (List zJC)) (c2 : Int) (w3 : zJC) : Nat → Int → Nat → Option ((Int × Int) ⊕ (Int))
 | 0, _, _ => none
 | k11 + 1, a5, i6 =>
  if ltI ((i6 : Nat) : Int) (s1.length : Int) then
   (s1[i6]?).bind fun x15 =>
   (F_syntax_formed_1_1 x15 c2 w3 a5).bind fun v17 =>
   if v17.1 then
    some (.inl (((i6 : Nat) : Int), v17.2))
   else
    zAi F_syntax_formed_1_1 s1 c2 w3 k11 v17.2 (i6 + 1)
  else
   some (.inr a5)
mutual
def zCS : Nat → zJC → Int → zJC → Int → Option (Bool × Int)
 | 0, _, _, _, _ => none
 | fuel + 1, x1, c2, w3, c4 =>
  (chk .i64 (c2 + 1)).bind fun n5 =>
  ((zCZ fuel) x1 n5 (eqI w3.Op 74) c4).bind fun v10 =>
  some (!v10.1, v10.2)
def zBO : Nat → (List zJC) → Int → zJC → Int → Option (Int × Int)
 | 0, _, _, _, _ => none
 | fuel + 1, s1, c2, w3, c4 =>
  (zAi (zCS fuel) s1 c2 w3 fuel c4 0).bind fun o => Sum.elim some (fun o7 =>
   some ((-1), o7)) o
def zBG : Nat → (List zJC) → Int → zJC → Int → Option (Bool × Int)
 | 0, _, _, _, _ => none
 | fuel + 1, s1, c2, w3, c4 =>
  ((zBO fuel) s1 c2 w3 c4).bind fun v5 =>
  some (leI 0 v5.1, v5.2)
def zCZ : Nat → zJC → Int → Bool → Int → Option (Bool × Int)
 | 0, _, _, _, _ => none
 | fuel + 1, t1, depth2, inWith3, c4 =>
  (chk .i64 (c4 + 1)).bind fun n5 =>
  (if ltI 20000 n5 then
   some true
  else if ltI 400 depth2 then
   some true
  else
   (zAZ fuel t1 inWith3).bind fun v16 =>
   if !v16 then
    some true
   else
    (zAV fuel t1).bind fun v21 =>
    some (!v21) : Option Bool).bind fun b23 =>
  if b23 then
   some (false, n5)
  else
   ((zBG fuel) t1.L depth2 t1 n5).bind fun v26 =>
   some (!v26.1, v26.2)
end
def zEv (fuel : Nat) (t1 : zJC) : Option (Bool) :=
 (zCZ fuel t1 1 false 0).bind fun v2 =>
 some v2.1
def zDy (fuel : Nat) (cat1 : Int) (t2 : zJC) : Option (Bool) :=
 ((zBU cat1 t2).bind fun v3 =>
 if v3 then
  (zEv fuel t2).bind fun v6 =>
  some v6
 else
  some false : Option Bool).bind fun b8 =>
 some b8
def zAD (l1 : (List (List UInt8))) (w2 : zI9) : Option (zI9) :=
 (app 16 w2.tokens l1).bind fun l3 =>
 some (zI9.mk l3)
def zDz (l : List (List UInt8)) (s : List UInt8) : Option (List UInt8) := if l.length ≤ 140737488355328 ∧ (Lib.join l s).length ≤ 140737488355328 then some (Lib.join l s) else none
def zBX (l1 : (List (List UInt8))) : Option ((List UInt8)) :=
 (zDz l1 [46]).bind fun v2 =>
 some v2
def zAv (n1 : Int) : Option (Int) :=
 if eqI n1 1 then
  some 1
 else if eqI n1 2 then
  some 2
 else if eqI n1 3 then
  some 3
 else if eqI n1 4 then
  some 3
 else if eqI n1 5 then
  some 3
 else if eqI n1 6 then
  some 4
 else if eqI n1 7 then
  some 5
 else if eqI n1 8 then
  some 5
 else if eqI n1 9 then
  some 6
 else if eqI n1 10 then
  some 6
 else if eqI n1 11 then
  some 6
 else if eqI n1 12 then
  some 7
 else
  some 0
def zCm (t1 : zJC) : Option (Int) :=
 if eqI t1.Op 4 then
  some 1
 else if eqI t1.Op 74 then
  some 1
 else if eqI t1.Op 85 then
  some 1
 else if eqI t1.Op 86 then
  some 1
 else if eqI t1.Op 2 then
  if ltI 0 (t1.L.length : Int) then
   some 2
  else
   some 3
 else if eqI t1.Op 1 then
  some 3
 else if eqI t1.Op 5 then
  some 3
 else if eqI t1.Op 14 then
  if ltI 0 (t1.L.length : Int) then
   some 0
  else
   some 1
 else if eqI t1.Op 11 then
  some 1
 else if eqI t1.Op 12 then
  some 1
 else if eqI t1.Op 13 then
  some 1
 else if eqI t1.Op 15 then
  some 1
 else if eqI t1.Op 32 then
  (zAv t1.N).bind fun v50 =>
  some v50
 else if eqI t1.Op 26 then
  some 8
 else if eqI t1.Op 21 then
  some 9
 else if eqI t1.Op 22 then
  some 9
 else if eqI t1.Op 23 then
  some 9
 else if eqI t1.Op 24 then
  some 9
 else if eqI t1.Op 27 then
  some 9
 else if eqI t1.Op 29 then
  some 9
 else if eqI t1.Op 31 then
  some 9
 else if eqI t1.Op 33 then
  some 9
 else if eqI t1.Op 34 then
  some 9
 else if eqI t1.Op 71 then
  some 2
 else if eqI t1.Op 72 then
  some 2
 else if eqI t1.Op 84 then
  some 2
 else if eqI t1.Op 81 then
  some 3
 else if eqI t1.Op 82 then
  some 3
 else if eqI t1.Op 87 then
  some 3
 else if eqI t1.Op 88 then
  some 3
 else
  some 0
def zD0 (n : Int) : Option (List UInt8) := if (Lib.itoa n).length ≤ 1000 then some (Lib.itoa n) else none
def zBe (n1 : Int) (w2 : zI9) : Option (zI9) :=
 if ltI n1 0 then
  (zAD [[126]] w2).bind fun v5 =>
  (chk .i64 (-n1)).bind fun n7 =>
  (zD0 n7).bind fun v11 =>
  (zAD [v11] v5).bind fun v13 =>
  some v13
 else
  (zD0 n1).bind fun v19 =>
  (zAD [v19] w2).bind fun v21 =>
  some v21
def zCD (b : List UInt8) : Option Unit := some ()
def zA0 (c1 : UInt8) (b2 : (List UInt8)) : Option ((List UInt8)) :=
 (zCD b2).bind fun v3 =>
 (app 1 b2 [c1]).bind fun l5 =>
 some l5
def zBA (s1 : (List UInt8)) (b2 : (List UInt8)) : Option (Int × (List UInt8)) :=
 (zCD b2).bind fun v3 =>
 (app 1 b2 s1).bind fun l5 =>
 some ((s1.length : Int), l5)
def zEF (c1 : UInt8) : Option (Bool) :=
 some ((leI 32 (c1.toNat : Int)) && (leI (c1.toNat : Int) 126))
def zCT (b : List UInt8) : Option (List UInt8) := some b
def zCL (s1 : (List UInt8)) : Nat → (List UInt8) → Nat → Option (((List UInt8) × Int) ⊕ ((List UInt8)))
 | 0, _, _ => none
 | k15 + 1, buf9, i10 =>
  if ltI ((i10 : Nat) : Int) (s1.length : Int) then
   (s1[i10]?).bind fun c18 =>
   if eqI (c18.toNat : Int) 10 then
    (zBA [92, 110] buf9).bind fun v22 =>
    zCL s1 k15 v22.2 (i10 + 1)
   else
    (zEF c18).bind fun v27 =>
    if !v27 then
     some (.inl (([] : List UInt8), 3))
    else if (eqI (c18.toNat : Int) 34) || (eqI (c18.toNat : Int) 92) then
     (zA0 (92 : UInt8) buf9).bind fun v36 =>
     (zA0 c18 v36).bind fun v38 =>
     zCL s1 k15 v38 (i10 + 1)
    else
     (zA0 c18 buf9).bind fun v47 =>
     zCL s1 k15 v47 (i10 + 1)
  else
   some (.inr buf9)
def zER (fuel : Nat) (s1 : (List UInt8)) : Option ((List UInt8) × Int) :=
 if ltI 16384 (s1.length : Int) then
  some (([] : List UInt8), 5)
 else
  (zA0 (34 : UInt8) ([] : List UInt8)).bind fun v7 =>
  (zCL s1 fuel v7 0).bind fun o => Sum.elim some (fun o11 =>
   (zA0 (34 : UInt8) o11).bind fun v54 =>
   (zCT v54).bind fun v56 =>
   some (v56, 0)) o
def zBD (n1 : Int) : Option ((List UInt8)) :=
 (idx [([] : List UInt8), [111, 114, 101, 108, 115, 101], [97, 110, 100, 97, 108, 115, 111], [61], [60], [60, 61], [94], [43], [45], [42], [100, 105, 118], [109, 111, 100], [126]] n1).bind fun x3 =>
 some x3
def zA3 (l1 : (List (List UInt8))) : Nat → (List (List UInt8)) → Nat → Option ((List (List UInt8)))
 | 0, _, _ => none
 | k21 + 1, tokens16, i17 =>
  if ltI ((i17 : Nat) : Int) (l1.length : Int) then
   (l1[i17]?).bind fun x25 =>
   if ltI 0 ((i17 : Nat) : Int) then
    (zAD [[44]] (zI9.mk tokens16)).bind fun v29 =>
    (zAD [x25] v29).bind fun v31 =>
    zA3 l1 k21 v31.tokens (i17 + 1)
   else
    (zAD [x25] (zI9.mk tokens16)).bind fun v37 =>
    zA3 l1 k21 v37.tokens (i17 + 1)
  else
   some tokens16
def zBJ (fuel : Nat) (l1 : (List (List UInt8))) (w2 : zI9) : Option (zI9) :=
 if eqI (l1.length : Int) 0 then
  some w2
 else if eqI (l1.length : Int) 1 then
  (l1[0]?).bind fun x8 =>
  (zAD [x8] w2).bind fun v10 =>
  some v10
 else
  (zAD [[40]] w2).bind fun v14 =>
  (zA3 l1 fuel v14.tokens 0).bind fun o18 =>
  (zAD [[41]] (zI9.mk o18)).bind fun v44 =>
  some v44
def zAs (F_printer_writer_part : zJC → Int → zI9 → Option (zI9)) (t1 : zJC) (l42 : (List (List UInt8))) : Nat → (List (List UInt8)) → Nat → Option ((List (List UInt8)))
 | 0, _, _ => none
 | k51 + 1, tokens46, i47 =>
  if ltI ((i47 : Nat) : Int) (l42.length : Int) then
   (l42[i47]?).bind fun x55 =>
   (zAD [x55] (zI9.mk tokens46)).bind fun v57 =>
   (t1.L[i47]?).bind fun x59 =>
   (F_printer_writer_part x59 0 v57).bind fun v61 =>
   zAs F_printer_writer_part t1 l42 k51 v61.tokens (i47 + 1)
  else
   some tokens46
def zA5 (F_printer_writer_part : zJC → Int → zI9 → Option (zI9)) (l1 : (List zJC)) (level2 : Int) (between3 : (List UInt8)) : Nat → (List (List UInt8)) → Nat → Option ((List (List UInt8)))
 | 0, _, _ => none
 | k10 + 1, tokens5, i6 =>
  if ltI ((i6 : Nat) : Int) (l1.length : Int) then
   (l1[i6]?).bind fun x14 =>
   if (ltI 0 ((i6 : Nat) : Int)) && (!(eqS between3 ([] : List UInt8))) then
    (zAD [between3] (zI9.mk tokens5)).bind fun v24 =>
    (F_printer_writer_part x14 level2 v24).bind fun v26 =>
    zA5 F_printer_writer_part l1 level2 between3 k10 v26.tokens (i6 + 1)
   else
    (F_printer_writer_part x14 level2 (zI9.mk tokens5)).bind fun v31 =>
    zA5 F_printer_writer_part l1 level2 between3 k10 v31.tokens (i6 + 1)
  else
   some tokens5
mutual
def zBN : Nat → zJC → zI9 → Option (zI9)
 | 0, _, _ => none
 | fuel + 1, t1, w2 =>
  if eqI t1.N 1 then
   (zAD [[102, 117, 110, 99, 116, 111, 114]] w2).bind fun v5 =>
   (zAD [[40], t1.S, [58]] v5).bind fun v7 =>
   (t1.L[0]?).bind fun x9 =>
   ((zAK fuel) x9 0 v7).bind fun v11 =>
   (some [[41], [61, 62]]).bind fun l13 =>
   (zAD l13 v11).bind fun v17 =>
   (t1.L[1]?).bind fun x19 =>
   ((zAK fuel) x19 0 v17).bind fun v21 =>
   some v21
  else
   (zAD [[103, 101, 110, 101, 114, 97, 116, 105, 118, 101]] w2).bind fun v29 =>
   (zAD [[40], t1.S, [58]] v29).bind fun v31 =>
   (t1.L[0]?).bind fun x33 =>
   ((zAK fuel) x33 0 v31).bind fun v35 =>
   (some [[41], [61, 62]]).bind fun l37 =>
   (zAD l37 v35).bind fun v41 =>
   (t1.L[1]?).bind fun x43 =>
   ((zAK fuel) x43 0 v41).bind fun v45 =>
   some v45
def zAY : Nat → zJC → zI9 → Option (zI9)
 | 0, _, _ => none
 | fuel + 1, t1, w2 =>
  if eqI t1.Op 61 then
   (zAD [[118, 97, 108], t1.S, [58]] w2).bind fun v5 =>
   (t1.L[0]?).bind fun x7 =>
   ((zAK fuel) x7 0 v5).bind fun v9 =>
   some v9
  else if eqI t1.Op 62 then
   (zAD [[116, 121, 112, 101]] w2).bind fun v16 =>
   (zBJ fuel t1.Names v16).bind fun v18 =>
   (zAD [t1.S] v18).bind fun v20 =>
   some v20
  else if eqI t1.Op 63 then
   (zAD [[115, 116, 114, 117, 99, 116, 117, 114, 101], t1.S, [58]] w2).bind fun v28 =>
   (t1.L[0]?).bind fun x30 =>
   ((zAK fuel) x30 0 v28).bind fun v32 =>
   some v32
  else if eqI t1.Op 65 then
   (zAD [[105, 110, 99, 108, 117, 100, 101]] w2).bind fun v39 =>
   (t1.L[0]?).bind fun x41 =>
   ((zAK fuel) x41 0 v39).bind fun v43 =>
   some v43
  else if eqI t1.Op 66 then
   (zBX t1.Names).bind fun v50 =>
   (zAD [[115, 104, 97, 114, 105, 110, 103], [116, 121, 112, 101], v50, [61]] w2).bind fun v52 =>
   (t1.L[0]?).bind fun x54 =>
   ((zAK fuel) x54 0 v52).bind fun v56 =>
   some v56
  else if eqI t1.Op 71 then
   (zAD [[115, 105, 103]] w2).bind fun v64 =>
   ((zAl fuel) t1.L 0 ([] : List UInt8) v64).bind fun v66 =>
   (zAD [[101, 110, 100]] v66).bind fun v68 =>
   some v68
  else if eqI t1.Op 81 then
   (zAD [[115, 116, 114, 117, 99, 116]] w2).bind fun v76 =>
   ((zAl fuel) t1.L 0 ([] : List UInt8) v76).bind fun v78 =>
   (zAD [[101, 110, 100]] v78).bind fun v80 =>
   some v80
  else if eqI t1.Op 73 then
   ((zBN fuel) t1 w2).bind fun v88 =>
   some v88
  else if eqI t1.Op 83 then
   ((zBN fuel) t1 w2).bind fun v94 =>
   some v94
  else if eqI t1.Op 74 then
   (t1.L[0]?).bind fun x100 =>
   ((zAK fuel) x100 1 w2).bind fun v102 =>
   (some [[119, 105, 116, 104], [116, 121, 112, 101]]).bind fun l104 =>
   (zAD l104 v102).bind fun v108 =>
   (t1.L[1]?).bind fun x110 =>
   (zBJ fuel x110.Names v108).bind fun v112 =>
   (zBX t1.Names).bind fun v114 =>
   (zAD [v114, [61]] v112).bind fun v116 =>
   (x110.L[0]?).bind fun x118 =>
   ((zAK fuel) x118 0 v116).bind fun v120 =>
   some v120
  else if eqI t1.Op 84 then
   (t1.L[0]?).bind fun x131 =>
   ((zAK fuel) x131 2 w2).bind fun v133 =>
   (zAD [[40]] v133).bind fun v135 =>
   (t1.L[1]?).bind fun x137 =>
   ((zAK fuel) x137 0 v135).bind fun v139 =>
   (zAD [[41]] v139).bind fun v141 =>
   some v141
  else if eqI t1.Op 85 then
   (t1.L[0]?).bind fun x150 =>
   ((zAK fuel) x150 1 w2).bind fun v152 =>
   (zAD [[58, 62]] v152).bind fun v154 =>
   (t1.L[1]?).bind fun x156 =>
   ((zAK fuel) x156 2 v154).bind fun v158 =>
   some v158
  else if eqI t1.Op 86 then
   (t1.L[0]?).bind fun x166 =>
   ((zAK fuel) x166 1 w2).bind fun v168 =>
   (zAD [[58]] v168).bind fun v170 =>
   (t1.L[1]?).bind fun x172 =>
   ((zAK fuel) x172 2 v170).bind fun v174 =>
   some v174
  else if eqI t1.Op 88 then
   ((zBw fuel) t1 w2).bind fun v182 =>
   some v182
  else
   some w2
def zBw : Nat → zJC → zI9 → Option (zI9)
 | 0, _, _ => none
 | fuel + 1, t1, w2 =>
  (zAD [[117, 110, 112, 97, 99, 107]] w2).bind fun v3 =>
  (t1.L[0]?).bind fun x5 =>
  ((zAK fuel) x5 9 v3).bind fun v7 =>
  (zAD [[58]] v7).bind fun v9 =>
  (t1.L[1]?).bind fun x11 =>
  ((zAK fuel) x11 2 v9).bind fun v13 =>
  some v13
def zAT : Nat → zJC → zI9 → Option (zI9)
 | 0, _, _ => none
 | fuel + 1, t1, w2 =>
  if eqI t1.Op 41 then
   (zAD [[118, 97, 108], t1.S, [61]] w2).bind fun v5 =>
   (t1.L[0]?).bind fun x7 =>
   ((zAK fuel) x7 0 v5).bind fun v9 =>
   some v9
  else if eqI t1.Op 42 then
   (zAD [[102, 117, 110], t1.S] w2).bind fun v16 =>
   (zAD t1.Names v16).bind fun v18 =>
   (zAD [[61]] v18).bind fun v20 =>
   (t1.L[0]?).bind fun x22 =>
   ((zAK fuel) x22 0 v20).bind fun v24 =>
   some v24
  else if eqI t1.Op 43 then
   (zAD [[116, 121, 112, 101]] w2).bind fun v33 =>
   (zBJ fuel t1.Names v33).bind fun v35 =>
   (zAD [t1.S, [61]] v35).bind fun v37 =>
   (t1.L[0]?).bind fun x39 =>
   ((zAK fuel) x39 0 v37).bind fun v41 =>
   some v41
  else if eqI t1.Op 44 then
   (zAD [[100, 97, 116, 97]] w2).bind fun v50 =>
   (zBJ fuel t1.Names v50).bind fun v52 =>
   (zAD [t1.S, [61]] v52).bind fun v54 =>
   ((zAl fuel) t1.L 0 [124] v54).bind fun v56 =>
   some v56
  else if eqI t1.Op 45 then
   (zAD [t1.S] w2).bind fun v65 =>
   if ltI 0 (t1.L.length : Int) then
    (zAD [[111, 102]] v65).bind fun v70 =>
    (t1.L[0]?).bind fun x72 =>
    ((zAK fuel) x72 0 v70).bind fun v74 =>
    some v74
   else
    some v65
  else if eqI t1.Op 46 then
   (zAD [[115, 116, 114, 117, 99, 116, 117, 114, 101], t1.S, [61]] w2).bind fun v84 =>
   (t1.L[0]?).bind fun x86 =>
   ((zAK fuel) x86 0 v84).bind fun v88 =>
   some v88
  else if eqI t1.Op 47 then
   (zAD [[115, 105, 103, 110, 97, 116, 117, 114, 101], t1.S, [61]] w2).bind fun v95 =>
   (t1.L[0]?).bind fun x97 =>
   ((zAK fuel) x97 0 v95).bind fun v99 =>
   some v99
  else if eqI t1.Op 64 then
   (zAD [[115, 105, 103, 110, 97, 116, 117, 114, 101], t1.S, [61]] w2).bind fun v106 =>
   (t1.L[0]?).bind fun x108 =>
   ((zAK fuel) x108 0 v106).bind fun v110 =>
   some v110
  else if eqI t1.Op 48 then
   (zBX t1.Names).bind fun v117 =>
   (zAD [[111, 112, 101, 110], v117] w2).bind fun v119 =>
   some v119
  else if eqI t1.Op 49 then
   (zBX t1.Names).bind fun v126 =>
   (zAD [[105, 110, 99, 108, 117, 100, 101], v126] w2).bind fun v128 =>
   some v128
  else if eqI t1.Op 50 then
   (zAD [[115, 116, 114, 117, 99, 116, 117, 114, 101], t1.S, [61]] w2).bind fun v135 =>
   ((zBw fuel) t1 v135).bind fun v137 =>
   some v137
  else
   ((zAY fuel) t1 w2).bind fun v142 =>
   some v142
def zAd : Nat → zJC → zI9 → Option (zI9)
 | 0, _, _ => none
 | fuel + 1, t1, w2 =>
  (zAv t1.N).bind fun v3 =>
  (chk .i64 (v3 + 1)).bind fun n5 =>
  if eqI t1.N 12 then
   (zAD [[126]] w2).bind fun v12 =>
   (t1.L[0]?).bind fun x14 =>
   ((zAK fuel) x14 v3 v12).bind fun v16 =>
   some v16
  else if eqI t1.N 1 then
   (t1.L[0]?).bind fun x24 =>
   ((zAK fuel) x24 n5 w2).bind fun v26 =>
   (zBD t1.N).bind fun v28 =>
   (zAD [v28] v26).bind fun v30 =>
   (t1.L[1]?).bind fun x32 =>
   ((zAK fuel) x32 v3 v30).bind fun v34 =>
   some v34
  else if eqI t1.N 2 then
   (t1.L[0]?).bind fun x44 =>
   ((zAK fuel) x44 n5 w2).bind fun v46 =>
   (zBD t1.N).bind fun v48 =>
   (zAD [v48] v46).bind fun v50 =>
   (t1.L[1]?).bind fun x52 =>
   ((zAK fuel) x52 v3 v50).bind fun v54 =>
   some v54
  else if eqI t1.N 6 then
   (t1.L[0]?).bind fun x64 =>
   ((zAK fuel) x64 n5 w2).bind fun v66 =>
   (zBD t1.N).bind fun v68 =>
   (zAD [v68] v66).bind fun v70 =>
   (t1.L[1]?).bind fun x72 =>
   ((zAK fuel) x72 v3 v70).bind fun v74 =>
   some v74
  else if eqI t1.N 3 then
   (t1.L[0]?).bind fun x85 =>
   ((zAK fuel) x85 n5 w2).bind fun v87 =>
   (zBD t1.N).bind fun v89 =>
   (zAD [v89] v87).bind fun v91 =>
   (t1.L[1]?).bind fun x93 =>
   ((zAK fuel) x93 n5 v91).bind fun v95 =>
   some v95
  else if eqI t1.N 4 then
   (t1.L[0]?).bind fun x106 =>
   ((zAK fuel) x106 n5 w2).bind fun v108 =>
   (zBD t1.N).bind fun v110 =>
   (zAD [v110] v108).bind fun v112 =>
   (t1.L[1]?).bind fun x114 =>
   ((zAK fuel) x114 n5 v112).bind fun v116 =>
   some v116
  else if eqI t1.N 5 then
   (t1.L[0]?).bind fun x127 =>
   ((zAK fuel) x127 n5 w2).bind fun v129 =>
   (zBD t1.N).bind fun v131 =>
   (zAD [v131] v129).bind fun v133 =>
   (t1.L[1]?).bind fun x135 =>
   ((zAK fuel) x135 n5 v133).bind fun v137 =>
   some v137
  else
   (t1.L[0]?).bind fun x144 =>
   ((zAK fuel) x144 v3 w2).bind fun v146 =>
   (zBD t1.N).bind fun v148 =>
   (zAD [v148] v146).bind fun v150 =>
   (t1.L[1]?).bind fun x152 =>
   ((zAK fuel) x152 n5 v150).bind fun v154 =>
   some v154
def zAI : Nat → zJC → zI9 → Option (zI9)
 | 0, _, _ => none
 | fuel + 1, t1, w2 =>
  if eqI t1.Op 25 then
   if eqS t1.S ([] : List UInt8) then
    (some [[102, 110], [95], [61, 62]]).bind fun l6 =>
    (zAD l6 w2).bind fun v10 =>
    (t1.L[0]?).bind fun x12 =>
    ((zAK fuel) x12 0 v10).bind fun v14 =>
    some v14
   else
    (zAD [[102, 110], t1.S, [61, 62]] w2).bind fun v18 =>
    (t1.L[0]?).bind fun x20 =>
    ((zAK fuel) x20 0 v18).bind fun v22 =>
    some v22
  else if eqI t1.Op 26 then
   (t1.L[0]?).bind fun x29 =>
   ((zAK fuel) x29 8 w2).bind fun v31 =>
   (t1.L[1]?).bind fun x33 =>
   ((zAK fuel) x33 9 v31).bind fun v35 =>
   some v35
  else if eqI t1.Op 28 then
   (some [[105, 102], [116, 104, 101, 110], [101, 108, 115, 101]]).bind fun l42 =>
   (zAs (zAK fuel) t1 l42 fuel w2.tokens 0).bind fun o48 =>
   some (zI9.mk o48)
  else if eqI t1.Op 29 then
   (zAD [[99, 97, 115, 101]] w2).bind fun v72 =>
   (t1.L[0]?).bind fun x74 =>
   ((zAK fuel) x74 0 v72).bind fun v76 =>
   (zAD [[111, 102]] v76).bind fun v78 =>
   (subC t1.L 1 (t1.L.length : Int)).bind fun l80 =>
   ((zAl fuel) l80 0 [124] v78).bind fun v84 =>
   (zAD [[101, 110, 100]] v84).bind fun v86 =>
   some v86
  else if eqI t1.Op 30 then
   (t1.L[0]?).bind fun x96 =>
   ((zAK fuel) x96 0 w2).bind fun v98 =>
   (zAD [[61, 62]] v98).bind fun v100 =>
   (t1.L[1]?).bind fun x102 =>
   ((zAK fuel) x102 0 v100).bind fun v104 =>
   some v104
  else if eqI t1.Op 31 then
   (chk .i64 ((t1.L.length : Int) - 1)).bind fun n112 =>
   (zAD [[108, 101, 116]] w2).bind fun v117 =>
   (subC t1.L 0 n112).bind fun l119 =>
   ((zAl fuel) l119 0 ([] : List UInt8) v117).bind fun v123 =>
   (zAD [[105, 110]] v123).bind fun v125 =>
   (idx t1.L n112).bind fun x127 =>
   ((zAK fuel) x127 0 v125).bind fun v131 =>
   (zAD [[101, 110, 100]] v131).bind fun v133 =>
   some v133
  else if eqI t1.Op 87 then
   (chk .i64 ((t1.L.length : Int) - 1)).bind fun n143 =>
   (zAD [[108, 101, 116]] w2).bind fun v148 =>
   (subC t1.L 0 n143).bind fun l150 =>
   ((zAl fuel) l150 0 ([] : List UInt8) v148).bind fun v154 =>
   (zAD [[105, 110]] v154).bind fun v156 =>
   (idx t1.L n143).bind fun x158 =>
   ((zAK fuel) x158 0 v156).bind fun v162 =>
   (zAD [[101, 110, 100]] v162).bind fun v164 =>
   some v164
  else if eqI t1.Op 32 then
   ((zAd fuel) t1 w2).bind fun v174 =>
   some v174
  else if eqI t1.Op 33 then
   (zAD [[40]] w2).bind fun v180 =>
   (t1.L[0]?).bind fun x182 =>
   ((zAK fuel) x182 0 v180).bind fun v184 =>
   (zAD [[58]] v184).bind fun v186 =>
   (t1.L[1]?).bind fun x188 =>
   ((zAK fuel) x188 0 v186).bind fun v190 =>
   (zAD [[41]] v190).bind fun v192 =>
   some v192
  else if eqI t1.Op 34 then
   (zBX t1.Names).bind fun v202 =>
   (zAD [[40], [112, 97, 99, 107], v202, [58]] w2).bind fun v204 =>
   (t1.L[0]?).bind fun x206 =>
   ((zAK fuel) x206 2 v204).bind fun v208 =>
   (zAD [[41]] v208).bind fun v210 =>
   some v210
  else
   ((zAT fuel) t1 w2).bind fun v217 =>
   some v217
def zAl : Nat → (List zJC) → Int → (List UInt8) → zI9 → Option (zI9)
 | 0, _, _, _, _ => none
 | fuel + 1, l1, level2, between3, w4 =>
  (zA5 (zAK fuel) l1 level2 between3 fuel w4.tokens 0).bind fun o7 =>
  some (zI9.mk o7)
def zAK : Nat → zJC → Int → zI9 → Option (zI9)
 | 0, _, _, _ => none
 | fuel + 1, t1, level2, w3 =>
  (zCm t1).bind fun v4 =>
  if leI level2 v4 then
   ((zAH fuel) t1 w3).bind fun v8 =>
   some v8
  else
   (zAD [[40]] w3).bind fun v12 =>
   ((zAH fuel) t1 v12).bind fun v14 =>
   (zAD [[41]] v14).bind fun v16 =>
   some v16
def zAH : Nat → zJC → zI9 → Option (zI9)
 | 0, _, _ => none
 | fuel + 1, t1, w2 =>
  if eqI t1.Op 1 then
   (zAD [t1.S] w2).bind fun v5 =>
   some v5
  else if eqI t1.Op 12 then
   (zAD [t1.S] w2).bind fun v11 =>
   some v11
  else if eqI t1.Op 2 then
   if eqI (t1.L.length : Int) 0 then
    (zBX t1.Names).bind fun v19 =>
    (zAD [v19] w2).bind fun v21 =>
    some v21
   else if eqI (t1.L.length : Int) 1 then
    (t1.L[0]?).bind fun x28 =>
    ((zAK fuel) x28 2 w2).bind fun v30 =>
    (zBX t1.Names).bind fun v32 =>
    (zAD [v32] v30).bind fun v34 =>
    some v34
   else
    (zAD [[40]] w2).bind fun v40 =>
    ((zAl fuel) t1.L 0 [44] v40).bind fun v42 =>
    (zAD [[41]] v42).bind fun v44 =>
    (zBX t1.Names).bind fun v46 =>
    (zAD [v46] v44).bind fun v48 =>
    some v48
  else if eqI t1.Op 3 then
   (t1.L[0]?).bind fun x58 =>
   ((zAK fuel) x58 1 w2).bind fun v60 =>
   (zAD [[45, 62]] v60).bind fun v62 =>
   (t1.L[1]?).bind fun x64 =>
   ((zAK fuel) x64 0 v62).bind fun v66 =>
   some v66
  else if eqI t1.Op 4 then
   ((zAl fuel) t1.L 2 [42] w2).bind fun v74 =>
   some v74
  else if eqI t1.Op 5 then
   (zBX t1.Names).bind fun v80 =>
   (zAD [[40], [109, 111, 100, 117, 108, 101], v80, [41]] w2).bind fun v82 =>
   some v82
  else if eqI t1.Op 11 then
   (zAD [[95]] w2).bind fun v89 =>
   some v89
  else if eqI t1.Op 13 then
   (zBe t1.N w2).bind fun v95 =>
   some v95
  else if eqI t1.Op 21 then
   (zBe t1.N w2).bind fun v101 =>
   some v101
  else if eqI t1.Op 14 then
   (zBX t1.Names).bind fun v107 =>
   (zAD [v107] w2).bind fun v109 =>
   ((zAl fuel) t1.L 1 ([] : List UInt8) v109).bind fun v111 =>
   some v111
  else if eqI t1.Op 15 then
   (zAD [[40]] w2).bind fun v119 =>
   ((zAl fuel) t1.L 0 [44] v119).bind fun v121 =>
   (zAD [[41]] v121).bind fun v123 =>
   some v123
  else if eqI t1.Op 27 then
   (zAD [[40]] w2).bind fun v131 =>
   ((zAl fuel) t1.L 0 [44] v131).bind fun v133 =>
   (zAD [[41]] v133).bind fun v135 =>
   some v135
  else if eqI t1.Op 22 then
   (zER fuel t1.S).bind fun v143 =>
   (zAD [v143.1] w2).bind fun v145 =>
   some v145
  else if eqI t1.Op 23 then
   (zBX t1.Names).bind fun v152 =>
   (zAD [v152] w2).bind fun v154 =>
   some v154
  else if eqI t1.Op 24 then
   (zBX t1.Names).bind fun v161 =>
   (zAD [v161] w2).bind fun v163 =>
   some v163
  else if eqI t1.Op 72 then
   (zBX t1.Names).bind fun v170 =>
   (zAD [v170] w2).bind fun v172 =>
   some v172
  else if eqI t1.Op 82 then
   (zBX t1.Names).bind fun v179 =>
   (zAD [v179] w2).bind fun v181 =>
   some v181
  else
   ((zAI fuel) t1 w2).bind fun v186 =>
   some v186
end
def zBM (w1 : zI9) : Nat → (List UInt8) → Nat → Option ((List UInt8))
 | 0, _, _ => none
 | k7 + 1, buf2, i3 =>
  if ltI ((i3 : Nat) : Int) (w1.tokens.length : Int) then
   (w1.tokens[i3]?).bind fun x11 =>
   (if ltI 0 ((i3 : Nat) : Int) then
    (idx w1.tokens (((i3 : Nat) : Int) - 1)).bind fun x16 =>
    if !(eqS x16 [40]) then
     if !(eqS x11 [41]) then
      if !(eqS x11 [44]) then
       some (!(eqS x11 [59]))
      else
       some false
     else
      some false
    else
     some false
   else
    some false : Option Bool).bind fun b30 =>
   if b30 then
    (zA0 (32 : UInt8) buf2).bind fun v33 =>
    (zBA x11 v33).bind fun v35 =>
    zBM w1 k7 v35.2 (i3 + 1)
   else
    (zBA x11 buf2).bind fun v40 =>
    zBM w1 k7 v40.2 (i3 + 1)
  else
   some buf2
def zC0 (fuel : Nat) (w1 : zI9) : Option ((List UInt8)) :=
 (zBM w1 fuel ([] : List UInt8) 0).bind fun o4 =>
 (zCT o4).bind fun v47 =>
 some v47
def zDh (fuel : Nat) (t1 : zJC) : Option ((List UInt8)) :=
 (zAH fuel t1 (zI9.mk ([] : List (List UInt8)))).bind fun v2 =>
 (zC0 fuel v2).bind fun v4 =>
 some v4
def zCd (s1 : (List UInt8)) : Option ((List UInt8) × Int) :=
 if ltI 16384 (s1.length : Int) then
  some (([] : List UInt8), 5)
 else
  some (s1, 0)
def zDE (fuel : Nat) (cat1 : Int) (t2 : zJC) : Option ((List UInt8) × Int) :=
 (zDy fuel cat1 t2).bind fun v3 =>
 if !v3 then
  some (([] : List UInt8), 1)
 else
  (zDh fuel t2).bind fun v8 =>
  (zCd v8).bind fun v10 =>
  some (v10.1, v10.2)
def zE4 (fuel : Nat) : Option (Bool) :=
 (zD2 1).bind fun v1 =>
 (zD2 2).bind fun v3 =>
 (zFb 7 [v1, v3]).bind fun v5 =>
 (zFm [120]).bind fun v7 =>
 (zFb 12 [v7]).bind fun v9 =>
 (zFb 9 [v5, v9]).bind fun v11 =>
 (zDE fuel 3 v11).bind fun v13 =>
 (zD2 1).bind fun v15 =>
 (zDE fuel 7 (zJC.mk 81 0 ([] : List UInt8) ([] : List (List UInt8)) [(zJC.mk 41 0 [120] ([] : List (List UInt8)) [v15]), (zJC.mk 46 0 [77] ([] : List (List UInt8)) [(zJC.mk 81 0 ([] : List UInt8) ([] : List (List UInt8)) ([] : List zJC))])])).bind fun v17 =>
 some ((eqI v13.2 0) && ((eqS v13.1 [40, 49, 32, 43, 32, 50, 41, 32, 42, 32, 126, 32, 120]) && ((eqI v17.2 0) && (eqS v17.1 [115, 116, 114, 117, 99, 116, 32, 118, 97, 108, 32, 120, 32, 61, 32, 49, 32, 115, 116, 114, 117, 99, 116, 117, 114, 101, 32, 77, 32, 61, 32, 115, 116, 114, 117, 99, 116, 32, 101, 110, 100, 32, 101, 110, 100]))))
def zCW (F_law06_nodes : zJC → Int → Int → Option (Int)) (t1 : zJC) (depth2 : Int) (limit3 : Int) : Nat → Int → Nat → Option ((Int) ⊕ (Int))
 | 0, _, _ => none
 | k10 + 1, n4, i5 =>
  if ltI ((i5 : Nat) : Int) (t1.L.length : Int) then
   (t1.L[i5]?).bind fun x14 =>
   if (ltI limit3 n4) || (eqI depth2 0) then
    (chk .i64 (limit3 + 1)).bind fun n20 =>
    some (.inl n20)
   else
    (chk .i64 (depth2 - 1)).bind fun n29 =>
    (F_law06_nodes x14 n29 limit3).bind fun v34 =>
    (chk .i64 (n4 + v34)).bind fun n36 =>
    zCW F_law06_nodes t1 depth2 limit3 k10 n36 (i5 + 1)
  else
   some (.inr n4)
def zDF : Nat → zJC → Int → Int → Option (Int)
 | 0, _, _, _ => none
 | fuel + 1, t1, depth2, limit3 =>
  (zCW (zDF fuel) t1 depth2 limit3 fuel 1 0).bind fun o => Sum.elim some (fun o6 =>
   some o6) o
def zEG (fuel : Nat) (t1 : zJC) : Option (Bool) :=
 ((zDF fuel t1 60 300).bind fun v2 =>
 if ltI 300 v2 then
  some true
 else
  some (ltI 20000 (t1.S.length : Int)) : Option Bool).bind fun b7 =>
 some b7
def zAo (fuel : Nat) (s1 : (List zJC)) : Nat → Nat → Option ((Int) ⊕ (Unit))
 | 0, _ => none
 | k7 + 1, i2 =>
  if ltI ((i2 : Nat) : Int) (s1.length : Int) then
   (s1[i2]?).bind fun x11 =>
   (zEG fuel x11).bind fun v13 =>
   if v13 then
    some (.inl ((i2 : Nat) : Int))
   else
    zAo fuel s1 k7 (i2 + 1)
  else
   some (.inr ())
def zBy (fuel : Nat) (s1 : (List zJC)) : Option (Int) :=
 (zAo fuel s1 fuel 0).bind fun o => Sum.elim some (fun o3 =>
  some (-1)) o
def zA8 (fuel : Nat) (s1 : (List zJC)) : Option (Bool) :=
 (zBy fuel s1).bind fun v2 =>
 some (leI 0 v2)
def zE3 (fuel : Nat) (l1 : (List zJC)) : Option (Bool) :=
 (if ltI 300 (l1.length : Int) then
  if leI (l1.length : Int) 1000 then
   some true
  else if ltI 1100 (l1.length : Int) then
   some true
  else
   (zA8 fuel l1).bind fun v11 =>
   some v11
 else if ltI 1100 (l1.length : Int) then
  some true
 else
  (zA8 fuel l1).bind fun v18 =>
  some v18 : Option Bool).bind fun b20 =>
 some b20
def zAQ (op1 : Int) : Option (Int) :=
 if (leI 1 op1) && (leI op1 5) then
  some 1
 else if (leI 11 op1) && (leI op1 15) then
  some 2
 else if (leI 21 op1) && ((leI op1 34) && (!(eqI op1 30))) then
  some 3
 else if (leI 41 op1) && ((leI op1 50) && (!(eqI op1 45))) then
  some 4
 else if (leI 61 op1) && (leI op1 66) then
  some 5
 else if (leI 71 op1) && (leI op1 74) then
  some 6
 else if (leI 81 op1) && (leI op1 88) then
  some 7
 else
  some 0
def zDA (op1 : Int) (cat2 : Int) : Option (Bool) :=
 ((zAQ op1).bind fun v3 =>
 if eqI v3 cat2 then
  some true
 else if eqI cat2 5 then
  if eqI op1 43 then
   some true
  else
   some (eqI op1 44)
 else
  some false : Option Bool).bind fun b14 =>
 some b14
def zDB (F_ref03_Size : zJC → Option (Int)) (t1 : zJC) : Nat → Int → Nat → Option (Int)
 | 0, _, _ => none
 | k7 + 1, n2, i3 =>
  if ltI ((i3 : Nat) : Int) (t1.L.length : Int) then
   (t1.L[i3]?).bind fun x11 =>
   (F_ref03_Size x11).bind fun v13 =>
   (chk .i64 (n2 + v13)).bind fun n15 =>
   zDB F_ref03_Size t1 k7 n15 (i3 + 1)
  else
   some n2
def zDQ : Nat → zJC → Option (Int)
 | 0, _ => none
 | fuel + 1, t1 =>
  (zDB (zDQ fuel) t1 fuel 1 0).bind fun o4 =>
  some o4
def zCt (F_ref03_Depth : zJC → Option (Int)) (t1 : zJC) : Nat → Int → Nat → Option (Int)
 | 0, _, _ => none
 | k7 + 1, n2, i3 =>
  if ltI ((i3 : Nat) : Int) (t1.L.length : Int) then
   (t1.L[i3]?).bind fun x11 =>
   (F_ref03_Depth x11).bind fun v13 =>
   zCt F_ref03_Depth t1 k7 (maxI n2 v13) (i3 + 1)
  else
   some n2
def zDC : Nat → zJC → Option (Int)
 | 0, _ => none
 | fuel + 1, t1 =>
  (zCt (zDC fuel) t1 fuel 0 0).bind fun o4 =>
  (chk .i64 (o4 + 1)).bind fun n20 =>
  some n20
def zAb (t1 : zJC) (n2 : Bool) (s3 : Bool) (names4 : Bool) : Option (Bool) :=
 some (if n2 then if s3 then names4 || (eqI (t1.Names.length : Int) 0) else (eqS t1.S ([] : List UInt8)) && (names4 || (eqI (t1.Names.length : Int) 0)) else (eqI t1.N 0) && (if s3 then names4 || (eqI (t1.Names.length : Int) 0) else (eqS t1.S ([] : List UInt8)) && (names4 || (eqI (t1.Names.length : Int) 0))))
def zDZ (c1 : UInt8) : Option (Bool) :=
 some ((leI 97 (c1.toNat : Int)) && (leI (c1.toNat : Int) 122))
def zDR (c1 : UInt8) : Option (Bool) :=
 some ((leI 65 (c1.toNat : Int)) && (leI (c1.toNat : Int) 90))
def zF7 (c1 : UInt8) : Option (Bool) :=
 some ((leI 48 (c1.toNat : Int)) && (leI (c1.toNat : Int) 57))
def zEQ (c1 : UInt8) : Option (Bool) :=
 ((zDZ c1).bind fun v2 =>
 if v2 then
  some true
 else
  (zDR c1).bind fun v5 =>
  if v5 then
   some true
  else
   (zF7 c1).bind fun v8 =>
   if v8 then
    some true
   else
    some (eqI (c1.toNat : Int) 95) : Option Bool).bind fun b11 =>
 some b11
def zCu (s1 : (List UInt8)) : Nat → Nat → Option ((Bool) ⊕ (Unit))
 | 0, _ => none
 | k7 + 1, i2 =>
  if ltI ((i2 : Nat) : Int) (s1.length : Int) then
   (s1[i2]?).bind fun c11 =>
   (zEQ c11).bind fun v13 =>
   if !v13 then
    some (.inl false)
   else
    zCu s1 k7 (i2 + 1)
  else
   some (.inr ())
def zDr (fuel : Nat) (s1 : (List UInt8)) : Option (Bool) :=
 (zCu s1 fuel 0).bind fun o => Sum.elim some (fun o3 =>
  some true) o
def zFQ (fuel : Nat) (s1 : (List UInt8)) : Option (Bool) :=
 (if leI 2 (s1.length : Int) then
  if leI (s1.length : Int) 24 then
   (s1[0]?).bind fun c7 =>
   if eqI (c7.toNat : Int) 39 then
    (s1[1]?).bind fun c11 =>
    (zDZ c11).bind fun v13 =>
    if v13 then
     (subC s1 1 (s1.length : Int)).bind fun s16 =>
     (zDr fuel s16).bind fun v20 =>
     some v20
    else
     some false
   else
    some false
  else
   some false
 else
  some false : Option Bool).bind fun b26 =>
 some b26
def zDI (fuel : Nat) (s1 : (List UInt8)) : Option (Bool) :=
 (zFQ fuel s1).bind fun v2 =>
 some v2
def zEs (fuel : Nat) (s1 : (List UInt8)) : Option (Bool) :=
 (if leI 1 (s1.length : Int) then
  if leI (s1.length : Int) 24 then
   (zDr fuel s1).bind fun v7 =>
   some v7
  else
   some false
 else
  some false : Option Bool).bind fun b12 =>
 some b12
def zFF : Option ((List (List UInt8))) :=
 (some [[97, 110, 100, 97, 108, 115, 111], [99, 97, 115, 101], [100, 97, 116, 97], [100, 105, 118], [101, 108, 115, 101], [101, 110, 100], [102, 110], [102, 117, 110], [102, 117, 110, 99, 116, 111, 114], [103, 101, 110, 101, 114, 97, 116, 105, 118, 101], [105, 102], [105, 109, 112, 111, 114, 116], [105, 110], [105, 110, 99, 108, 117, 100, 101], [108, 101, 116], [109, 111, 100], [109, 111, 100, 117, 108, 101], [111, 102], [111, 112, 101, 110], [111, 114, 101, 108, 115, 101], [112, 97, 99, 107], [115, 104, 97, 114, 105, 110, 103], [115, 105, 103], [115, 105, 103, 110, 97, 116, 117, 114, 101], [115, 116, 114, 117, 99, 116], [115, 116, 114, 117, 99, 116, 117, 114, 101], [116, 104, 101, 110], [116, 121, 112, 101], [117, 110, 112, 97, 99, 107], [118, 97, 108], [119, 105, 116, 104]]).bind fun l1 =>
 some l1
def zDD (l1 : (List (List UInt8))) (s2 : (List UInt8)) : Nat → Nat → Option ((Int) ⊕ (Unit))
 | 0, _ => none
 | k8 + 1, i3 =>
  if ltI ((i3 : Nat) : Int) (l1.length : Int) then
   (l1[i3]?).bind fun x12 =>
   if eqS x12 s2 then
    some (.inl ((i3 : Nat) : Int))
   else
    zDD l1 s2 k8 (i3 + 1)
  else
   some (.inr ())
def zFl (fuel : Nat) (l1 : (List (List UInt8))) (s2 : (List UInt8)) : Option (Int) :=
 (zDD l1 s2 fuel 0).bind fun o => Sum.elim some (fun o4 =>
  some (-1)) o
def zEx (fuel : Nat) (s1 : (List UInt8)) : Option (Bool) :=
 ((zEs fuel s1).bind fun v2 =>
 if v2 then
  (s1[0]?).bind fun c5 =>
  (zDZ c5).bind fun v7 =>
  if v7 then
   (zFF).bind fun v10 =>
   (zFl fuel v10 s1).bind fun v12 =>
   some (ltI v12 0)
  else
   some false
 else
  some false : Option Bool).bind fun b14 =>
 some b14
def zB9 (fuel : Nat) (s1 : (List UInt8)) : Option (Bool) :=
 (zEx fuel s1).bind fun v2 =>
 some v2
def zEw (fuel : Nat) (s1 : (List UInt8)) : Option (Bool) :=
 ((zEs fuel s1).bind fun v2 =>
 if v2 then
  (s1[0]?).bind fun c5 =>
  (zDR c5).bind fun v7 =>
  some v7
 else
  some false : Option Bool).bind fun b9 =>
 some b9
def zBp (fuel : Nat) (s1 : (List UInt8)) : Option (Bool) :=
 (zEw fuel s1).bind fun v2 =>
 some v2
def zCl (fuel : Nat) (l1 : (List (List UInt8))) (low2 : Bool) : Nat → Nat → Option ((Bool) ⊕ (Unit))
 | 0, _ => none
 | k19 + 1, i14 =>
  if ltI ((i14 : Nat) : Int) (l1.length : Int) then
   if low2 && (eqI ((i14 : Nat) : Int) ((l1.length : Int) - 1)) then
    (l1[i14]?).bind fun x28 =>
    (zB9 fuel x28).bind fun v30 =>
    if !v30 then
     some (.inl false)
    else
     zCl fuel l1 low2 k19 (i14 + 1)
   else
    (l1[i14]?).bind fun x37 =>
    (zBp fuel x37).bind fun v39 =>
    if !v39 then
     some (.inl false)
    else
     zCl fuel l1 low2 k19 (i14 + 1)
  else
   some (.inr ())
def zCF (fuel : Nat) (l1 : (List (List UInt8))) (low2 : Bool) : Option (Bool) :=
 if (ltI (l1.length : Int) 1) || (ltI 8 (l1.length : Int)) then
  some false
 else
  (zCl fuel l1 low2 fuel 0).bind fun o => Sum.elim some (fun o15 =>
   some true) o
def zCV (t1 : zJC) (to3 : Int) (cat4 : Int) : Nat → Int → Option ((Bool) ⊕ (Unit))
 | 0, _ => none
 | k10 + 1, i5 =>
  if ltI i5 to3 then
   (idx t1.L i5).bind fun x13 =>
   (zDA x13.Op cat4).bind fun v17 =>
   if !v17 then
    some (.inl false)
   else
    (chk .i64 (i5 + 1)).bind fun n22 =>
    zCV t1 to3 cat4 k10 n22
  else
   some (.inr ())
def zB3 (fuel : Nat) (t1 : zJC) (from2 : Int) (to3 : Int) (cat4 : Int) : Option (Bool) :=
 (zCV t1 to3 cat4 fuel from2).bind fun o => Sum.elim some (fun o6 =>
  some true) o
def zCs (t1 : zJC) (cats2 : (List Int)) : Nat → Nat → Option ((Bool) ⊕ (Unit))
 | 0, _ => none
 | k13 + 1, i8 =>
  if ltI ((i8 : Nat) : Int) (cats2.length : Int) then
   ((cats2[i8]?).bind fun x17 =>
   if eqI x17 0 then
    (t1.L[i8]?).bind fun x21 =>
    if !(eqI x21.Op 72) then
     some true
    else
     some false
   else
    (t1.L[i8]?).bind fun x29 =>
    (zDA x29.Op x17).bind fun v31 =>
    some (!v31) : Option Bool).bind fun b33 =>
   if b33 then
    some (.inl false)
   else
    zCs t1 cats2 k13 (i8 + 1)
  else
   some (.inr ())
def zAp (fuel : Nat) (t1 : zJC) (cats2 : (List Int)) : Option (Bool) :=
 if !(eqI (t1.L.length : Int) (cats2.length : Int)) then
  some false
 else
  (zCs t1 cats2 fuel 0).bind fun o => Sum.elim some (fun o9 =>
   some true) o
def zCr (fuel : Nat) (t1 : zJC) : Option (Bool) :=
 if eqI t1.Op 1 then
  ((zAb t1 false true false).bind fun v4 =>
  if v4 then
   (zDI fuel t1.S).bind fun v7 =>
   if v7 then
    some (eqI (t1.L.length : Int) 0)
   else
    some false
  else
   some false : Option Bool).bind fun b10 =>
  some b10
 else if eqI t1.Op 2 then
  ((zAb t1 false false true).bind fun v20 =>
  if v20 then
   (zCF fuel t1.Names true).bind fun v23 =>
   if v23 then
    if leI (t1.L.length : Int) 4 then
     (zB3 fuel t1 0 (t1.L.length : Int) 1).bind fun v29 =>
     some v29
    else
     some false
   else
    some false
  else
   some false : Option Bool).bind fun b33 =>
  some b33
 else if eqI t1.Op 3 then
  ((zAb t1 false false false).bind fun v46 =>
  if v46 then
   (some [1, 1]).bind fun l49 =>
   (zAp fuel t1 l49).bind fun v53 =>
   some v53
  else
   some false : Option Bool).bind fun b55 =>
  some b55
 else if eqI t1.Op 4 then
  ((zAb t1 false false false).bind fun v63 =>
  if v63 then
   if leI 2 (t1.L.length : Int) then
    if leI (t1.L.length : Int) 9 then
     (zB3 fuel t1 0 (t1.L.length : Int) 1).bind fun v71 =>
     some v71
    else
     some false
   else
    some false
  else
   some false : Option Bool).bind fun b76 =>
  some b76
 else
  ((zAb t1 false false true).bind fun v84 =>
  if v84 then
   (zCF fuel t1.Names false).bind fun v87 =>
   if v87 then
    some (eqI (t1.L.length : Int) 0)
   else
    some false
  else
   some false : Option Bool).bind fun b90 =>
  some b90
def zC8 (fuel : Nat) (t1 : zJC) : Option (Bool) :=
 if eqI t1.Op 11 then
  ((zAb t1 false false false).bind fun v4 =>
  if v4 then
   some (eqI (t1.L.length : Int) 0)
  else
   some false : Option Bool).bind fun b7 =>
  some b7
 else if eqI t1.Op 12 then
  ((zAb t1 false true false).bind fun v14 =>
  if v14 then
   (zB9 fuel t1.S).bind fun v17 =>
   if v17 then
    some (eqI (t1.L.length : Int) 0)
   else
    some false
  else
   some false : Option Bool).bind fun b20 =>
  some b20
 else if eqI t1.Op 13 then
  ((zAb t1 true false false).bind fun v30 =>
  if v30 then
   if leI (-4503599627370496) t1.N then
    if leI t1.N 4503599627370496 then
     some (eqI (t1.L.length : Int) 0)
    else
     some false
   else
    some false
  else
   some false : Option Bool).bind fun b39 =>
  some b39
 else if eqI t1.Op 14 then
  ((zAb t1 false false true).bind fun v48 =>
  if v48 then
   (zCF fuel t1.Names false).bind fun v51 =>
   if v51 then
    if leI (t1.L.length : Int) 1 then
     (zB3 fuel t1 0 (t1.L.length : Int) 2).bind fun v57 =>
     some v57
    else
     some false
   else
    some false
  else
   some false : Option Bool).bind fun b61 =>
  some b61
 else
  ((zAb t1 false false false).bind fun v72 =>
  if v72 then
   if !(eqI (t1.L.length : Int) 1) then
    if leI (t1.L.length : Int) 9 then
     (zB3 fuel t1 0 (t1.L.length : Int) 2).bind fun v81 =>
     some v81
    else
     some false
   else
    some false
  else
   some false : Option Bool).bind fun b87 =>
  some b87
def zC7 (s1 : (List UInt8)) : Nat → Nat → Option ((Bool) ⊕ (Unit))
 | 0, _ => none
 | k7 + 1, i2 =>
  if ltI ((i2 : Nat) : Int) (s1.length : Int) then
   ((s1[i2]?).bind fun c11 =>
   if !(eqI (c11.toNat : Int) 10) then
    if ltI (c11.toNat : Int) 32 then
     some true
    else
     some (ltI 126 (c11.toNat : Int))
   else
    some false : Option Bool).bind fun b21 =>
   if b21 then
    some (.inl false)
   else
    zC7 s1 k7 (i2 + 1)
  else
   some (.inr ())
def zEr (fuel : Nat) (s1 : (List UInt8)) : Option (Bool) :=
 (zC7 s1 fuel 0).bind fun o => Sum.elim some (fun o3 =>
  some (leI (s1.length : Int) 16384)) o
def zB0 (t1 : zJC) : Nat → Nat → Option ((Bool) ⊕ (Unit))
 | 0, _ => none
 | k173 + 1, i168 =>
  if ltI ((i168 : Nat) : Int) (t1.L.length : Int) then
   (t1.L[i168]?).bind fun x177 =>
   if !(eqI x177.Op 30) then
    some (.inl false)
   else
    zB0 t1 k173 (i168 + 1)
  else
   some (.inr ())
def zBz (t1 : zJC) : Nat → Nat → Option ((Bool) ⊕ (Unit))
 | 0, _ => none
 | k233 + 1, i228 =>
  (chk .i64 ((t1.L.length : Int) - 1)).bind fun n234 =>
  if ltI ((i228 : Nat) : Int) n234 then
   ((t1.L[i228]?).bind fun x241 =>
   if !(eqI x241.Op 41) then
    if !(eqI x241.Op 42) then
     some (!(eqI x241.Op 50))
    else
     some false
   else
    some false : Option Bool).bind fun b253 =>
   if b253 then
    some (.inl false)
   else
    zBz t1 k233 (i228 + 1)
  else
   some (.inr ())
def zBH (fuel : Nat) (t1 : zJC) : Option (Bool) :=
 if eqI t1.Op 21 then
  ((zAb t1 true false false).bind fun v4 =>
  if v4 then
   if leI 0 t1.N then
    if leI t1.N 4503599627370496 then
     some (eqI (t1.L.length : Int) 0)
    else
     some false
   else
    some false
  else
   some false : Option Bool).bind fun b13 =>
  some b13
 else if eqI t1.Op 22 then
  ((zAb t1 false true false).bind fun v22 =>
  if v22 then
   (zEr fuel t1.S).bind fun v25 =>
   if v25 then
    some (eqI (t1.L.length : Int) 0)
   else
    some false
  else
   some false : Option Bool).bind fun b28 =>
  some b28
 else if eqI t1.Op 23 then
  ((zAb t1 false false true).bind fun v38 =>
  if v38 then
   (zCF fuel t1.Names true).bind fun v41 =>
   if v41 then
    some (eqI (t1.L.length : Int) 0)
   else
    some false
  else
   some false : Option Bool).bind fun b44 =>
  some b44
 else if eqI t1.Op 24 then
  ((zAb t1 false false true).bind fun v54 =>
  if v54 then
   (zCF fuel t1.Names false).bind fun v57 =>
   if v57 then
    some (eqI (t1.L.length : Int) 0)
   else
    some false
  else
   some false : Option Bool).bind fun b60 =>
  some b60
 else if eqI t1.Op 25 then
  ((zAb t1 false true false).bind fun v70 =>
  if v70 then
   if eqS t1.S ([] : List UInt8) then
    (zAp fuel t1 [3]).bind fun v74 =>
    some v74
   else
    (zB9 fuel t1.S).bind fun v76 =>
    if v76 then
     (zAp fuel t1 [3]).bind fun v79 =>
     some v79
    else
     some false
  else
   some false : Option Bool).bind fun b81 =>
  some b81
 else if eqI t1.Op 26 then
  ((zAb t1 false false false).bind fun v94 =>
  if v94 then
   (some [3, 3]).bind fun l97 =>
   (zAp fuel t1 l97).bind fun v101 =>
   some v101
  else
   some false : Option Bool).bind fun b103 =>
  some b103
 else if eqI t1.Op 27 then
  ((zAb t1 false false false).bind fun v111 =>
  if v111 then
   if !(eqI (t1.L.length : Int) 1) then
    if leI (t1.L.length : Int) 9 then
     (zB3 fuel t1 0 (t1.L.length : Int) 3).bind fun v120 =>
     some v120
    else
     some false
   else
    some false
  else
   some false : Option Bool).bind fun b126 =>
  some b126
 else if eqI t1.Op 28 then
  ((zAb t1 false false false).bind fun v136 =>
  if v136 then
   (some [3, 3, 3]).bind fun l139 =>
   (zAp fuel t1 l139).bind fun v143 =>
   some v143
  else
   some false : Option Bool).bind fun b145 =>
  some b145
 else if eqI t1.Op 29 then
  ((zAb t1 false false false).bind fun v153 =>
  if !v153 then
   some true
  else if ltI (t1.L.length : Int) 2 then
   some true
  else
   (zB3 fuel t1 0 1 3).bind fun v163 =>
   some (!v163) : Option Bool).bind fun b165 =>
  if b165 then
   some false
  else
   (zB0 t1 fuel 1).bind fun o => Sum.elim some (fun o169 =>
    some true) o
 else if eqI t1.Op 30 then
  ((zAb t1 false false false).bind fun v195 =>
  if v195 then
   (some [2, 3]).bind fun l198 =>
   (zAp fuel t1 l198).bind fun v202 =>
   some v202
  else
   some false : Option Bool).bind fun b204 =>
  some b204
 else if eqI t1.Op 31 then
  ((zAb t1 false false false).bind fun v212 =>
  if !v212 then
   some true
  else if ltI (t1.L.length : Int) 1 then
   some true
  else
   (zB3 fuel t1 ((t1.L.length : Int) - 1) (t1.L.length : Int) 3).bind fun v223 =>
   some (!v223) : Option Bool).bind fun b225 =>
  if b225 then
   some false
  else
   (zBz t1 fuel 0).bind fun o => Sum.elim some (fun o229 =>
    some true) o
 else if eqI t1.Op 32 then
  if eqI t1.N 12 then
   ((zAb t1 true false false).bind fun v268 =>
   if v268 then
    (zAp fuel t1 [3]).bind fun v271 =>
    some v271
   else
    some false : Option Bool).bind fun b273 =>
   some b273
  else
   ((zAb t1 true false false).bind fun v279 =>
   if v279 then
    if leI 1 t1.N then
     if leI t1.N 11 then
      (some [3, 3]).bind fun l286 =>
      (zAp fuel t1 l286).bind fun v290 =>
      some v290
     else
      some false
    else
     some false
   else
    some false : Option Bool).bind fun b294 =>
   some b294
 else if eqI t1.Op 33 then
  ((zAb t1 false false false).bind fun v304 =>
  if v304 then
   (some [3, 1]).bind fun l307 =>
   (zAp fuel t1 l307).bind fun v311 =>
   some v311
  else
   some false : Option Bool).bind fun b313 =>
  some b313
 else
  ((zAb t1 false false true).bind fun v319 =>
  if v319 then
   (zCF fuel t1.Names false).bind fun v322 =>
   if v322 then
    (zAp fuel t1 [0]).bind fun v325 =>
    some v325
   else
    some false
  else
   some false : Option Bool).bind fun b327 =>
  some b327
def zCb (l1 : (List (List UInt8))) (i2 : Nat) (x11 : (List UInt8)) : Nat → Nat → Option ((Bool) ⊕ (Unit))
 | 0, _ => none
 | k23 + 1, j18 =>
  if ltI ((j18 : Nat) : Int) ((i2 : Nat) : Int) then
   (l1[j18]?).bind fun x26 =>
   if eqS x11 x26 then
    some (.inl false)
   else
    zCb l1 i2 x11 k23 (j18 + 1)
  else
   some (.inr ())
def zCc (fuel : Nat) (l1 : (List (List UInt8))) : Nat → Nat → Option ((Bool) ⊕ (Unit))
 | 0, _ => none
 | k7 + 1, i2 =>
  if ltI ((i2 : Nat) : Int) (l1.length : Int) then
   (l1[i2]?).bind fun x11 =>
   (zDI fuel x11).bind fun v13 =>
   if !v13 then
    some (.inl false)
   else
    (zCb l1 i2 x11 fuel 0).bind fun o => Sum.elim (fun r => some (.inl r)) (fun o19 =>
     zCc fuel l1 k7 (i2 + 1)) o
  else
   some (.inr ())
def zC4 (fuel : Nat) (l1 : (List (List UInt8))) : Option (Bool) :=
 (zCc fuel l1 fuel 0).bind fun o => Sum.elim some (fun o3 =>
  some (leI (l1.length : Int) 4)) o
def zBn (fuel : Nat) (t1 : zJC) : Nat → Nat → Option ((Bool) ⊕ (Unit))
 | 0, _ => none
 | k46 + 1, i41 =>
  if ltI ((i41 : Nat) : Int) (t1.Names.length : Int) then
   (t1.Names[i41]?).bind fun x50 =>
   (zB9 fuel x50).bind fun v52 =>
   if !v52 then
    some (.inl false)
   else
    zBn fuel t1 k46 (i41 + 1)
  else
   some (.inr ())
def zCI (t1 : zJC) (i130 : Nat) (x139 : zJC) : Nat → Nat → Option ((Bool) ⊕ (Unit))
 | 0, _ => none
 | k151 + 1, j146 =>
  if ltI ((j146 : Nat) : Int) ((i130 : Nat) : Int) then
   (t1.L[j146]?).bind fun x154 =>
   if eqS x139.S x154.S then
    some (.inl false)
   else
    zCI t1 i130 x139 k151 (j146 + 1)
  else
   some (.inr ())
def zBm (fuel : Nat) (t1 : zJC) : Nat → Nat → Option ((Bool) ⊕ (Unit))
 | 0, _ => none
 | k135 + 1, i130 =>
  if ltI ((i130 : Nat) : Int) (t1.L.length : Int) then
   (t1.L[i130]?).bind fun x139 =>
   if !(eqI x139.Op 45) then
    some (.inl false)
   else
    (zCI t1 i130 x139 fuel 0).bind fun o => Sum.elim (fun r => some (.inl r)) (fun o147 =>
     zBm fuel t1 k135 (i130 + 1)) o
  else
   some (.inr ())
def zBj (fuel : Nat) (t1 : zJC) : Option (Bool) :=
 if eqI t1.Op 41 then
  ((zAb t1 false true false).bind fun v4 =>
  if v4 then
   (zB9 fuel t1.S).bind fun v7 =>
   if v7 then
    (zAp fuel t1 [3]).bind fun v10 =>
    some v10
   else
    some false
  else
   some false : Option Bool).bind fun b12 =>
  some b12
 else if eqI t1.Op 42 then
  ((zAb t1 false true true).bind fun v23 =>
  if !v23 then
   some true
  else
   (zB9 fuel t1.S).bind fun v28 =>
   if !v28 then
    some true
   else if ltI (t1.Names.length : Int) 1 then
    some true
   else
    some (ltI 9 (t1.Names.length : Int)) : Option Bool).bind fun b38 =>
  if b38 then
   some false
  else
   (zBn fuel t1 fuel 0).bind fun o => Sum.elim some (fun o42 =>
    (zAp fuel t1 [3]).bind fun v62 =>
    some v62) o
 else if eqI t1.Op 43 then
  ((zAb t1 false true true).bind fun v75 =>
  if v75 then
   if eqS t1.S ([] : List UInt8) then
    (zC4 fuel t1.Names).bind fun v79 =>
    if v79 then
     (zAp fuel t1 [1]).bind fun v82 =>
     some v82
    else
     some false
   else
    (zB9 fuel t1.S).bind fun v84 =>
    if v84 then
     (zC4 fuel t1.Names).bind fun v87 =>
     if v87 then
      (zAp fuel t1 [1]).bind fun v90 =>
      some v90
     else
      some false
    else
     some false
  else
   some false : Option Bool).bind fun b92 =>
  some b92
 else if eqI t1.Op 44 then
  ((zAb t1 false true true).bind fun v112 =>
  if !v112 then
   some true
  else
   (zB9 fuel t1.S).bind fun v117 =>
   if !v117 then
    some true
   else
    (zC4 fuel t1.Names).bind fun v122 =>
    if !v122 then
     some true
    else
     some (ltI (t1.L.length : Int) 1) : Option Bool).bind fun b127 =>
  if b127 then
   some false
  else
   (zBm fuel t1 fuel 0).bind fun o => Sum.elim some (fun o131 =>
    some true) o
 else if eqI t1.Op 45 then
  ((zAb t1 false true false).bind fun v176 =>
  if v176 then
   (zBp fuel t1.S).bind fun v179 =>
   if v179 then
    if leI (t1.L.length : Int) 1 then
     (zB3 fuel t1 0 (t1.L.length : Int) 1).bind fun v185 =>
     some v185
    else
     some false
   else
    some false
  else
   some false : Option Bool).bind fun b189 =>
  some b189
 else if eqI t1.Op 46 then
  ((zAb t1 false true false).bind fun v202 =>
  if v202 then
   (zBp fuel t1.S).bind fun v205 =>
   if v205 then
    (zAp fuel t1 [7]).bind fun v208 =>
    some v208
   else
    some false
  else
   some false : Option Bool).bind fun b210 =>
  some b210
 else if eqI t1.Op 47 then
  ((zAb t1 false true false).bind fun v221 =>
  if v221 then
   (zBp fuel t1.S).bind fun v224 =>
   if v224 then
    (zAp fuel t1 [6]).bind fun v227 =>
    some v227
   else
    some false
  else
   some false : Option Bool).bind fun b229 =>
  some b229
 else if (eqI t1.Op 48) || (eqI t1.Op 49) then
  ((zAb t1 false false true).bind fun v242 =>
  if v242 then
   (zCF fuel t1.Names false).bind fun v245 =>
   if v245 then
    some (eqI (t1.L.length : Int) 0)
   else
    some false
  else
   some false : Option Bool).bind fun b248 =>
  some b248
 else
  ((zAb t1 false true false).bind fun v259 =>
  if v259 then
   (zBp fuel t1.S).bind fun v262 =>
   if v262 then
    (some [3, 0]).bind fun l265 =>
    (zAp fuel t1 l265).bind fun v269 =>
    some v269
   else
    some false
  else
   some false : Option Bool).bind fun b271 =>
  some b271
def zBi (fuel : Nat) (t1 : zJC) : Option (Bool) :=
 if eqI t1.Op 61 then
  ((zAb t1 false true false).bind fun v4 =>
  if v4 then
   (zB9 fuel t1.S).bind fun v7 =>
   if v7 then
    (zAp fuel t1 [1]).bind fun v10 =>
    some v10
   else
    some false
  else
   some false : Option Bool).bind fun b12 =>
  some b12
 else if eqI t1.Op 62 then
  ((zAb t1 false true true).bind fun v23 =>
  if v23 then
   (zB9 fuel t1.S).bind fun v26 =>
   if v26 then
    (zC4 fuel t1.Names).bind fun v29 =>
    if v29 then
     some (eqI (t1.L.length : Int) 0)
    else
     some false
   else
    some false
  else
   some false : Option Bool).bind fun b32 =>
  some b32
 else if (eqI t1.Op 63) || (eqI t1.Op 64) then
  ((zAb t1 false true false).bind fun v48 =>
  if v48 then
   (zBp fuel t1.S).bind fun v51 =>
   if v51 then
    (zAp fuel t1 [6]).bind fun v54 =>
    some v54
   else
    some false
  else
   some false : Option Bool).bind fun b56 =>
  some b56
 else if eqI t1.Op 65 then
  ((zAb t1 false false false).bind fun v70 =>
  if v70 then
   (zAp fuel t1 [6]).bind fun v73 =>
   some v73
  else
   some false : Option Bool).bind fun b75 =>
  some b75
 else if eqI t1.Op 66 then
  ((zAb t1 false false true).bind fun v83 =>
  if v83 then
   (zCF fuel t1.Names true).bind fun v86 =>
   if v86 then
    if eqI (t1.L.length : Int) 1 then
     (t1.L[0]?).bind fun x91 =>
     if eqI x91.Op 2 then
      some (eqI (x91.L.length : Int) 0)
     else
      some false
    else
     some false
   else
    some false
  else
   some false : Option Bool).bind fun b97 =>
  some b97
 else if eqI t1.Op 71 then
  ((zAb t1 false false false).bind fun v111 =>
  if v111 then
   (zB3 fuel t1 0 (t1.L.length : Int) 5).bind fun v114 =>
   some v114
  else
   some false : Option Bool).bind fun b116 =>
  some b116
 else if eqI t1.Op 72 then
  ((zAb t1 false false true).bind fun v124 =>
  if v124 then
   (zCF fuel t1.Names false).bind fun v127 =>
   if v127 then
    some (eqI (t1.L.length : Int) 0)
   else
    some false
  else
   some false : Option Bool).bind fun b130 =>
  some b130
 else if eqI t1.Op 73 then
  ((zAb t1 true true false).bind fun v140 =>
  if v140 then
   if eqI t1.N 0 then
    (zBp fuel t1.S).bind fun v145 =>
    if v145 then
     (some [6, 6]).bind fun l148 =>
     (zAp fuel t1 l148).bind fun v152 =>
     some v152
    else
     some false
   else if eqI t1.N 1 then
    (zBp fuel t1.S).bind fun v157 =>
    if v157 then
     (some [6, 6]).bind fun l160 =>
     (zAp fuel t1 l160).bind fun v164 =>
     some v164
    else
     some false
   else
    some false
  else
   some false : Option Bool).bind fun b167 =>
  some b167
 else
  ((zAb t1 false false true).bind fun v182 =>
  if v182 then
   (zCF fuel t1.Names true).bind fun v185 =>
   if v185 then
    if eqI (t1.L.length : Int) 2 then
     (zB3 fuel t1 0 1 6).bind fun v190 =>
     if v190 then
      (t1.L[1]?).bind fun x193 =>
      if eqI x193.Op 43 then
       some (eqS x193.S ([] : List UInt8))
      else
       some false
     else
      some false
    else
     some false
   else
    some false
  else
   some false : Option Bool).bind fun b199 =>
  some b199
def zCK (fuel : Nat) (t1 : zJC) : Option (Bool) :=
 if eqI t1.Op 81 then
  ((zAb t1 false false false).bind fun v4 =>
  if v4 then
   (zB3 fuel t1 0 (t1.L.length : Int) 4).bind fun v7 =>
   some v7
  else
   some false : Option Bool).bind fun b9 =>
  some b9
 else if eqI t1.Op 82 then
  ((zAb t1 false false true).bind fun v17 =>
  if v17 then
   (zCF fuel t1.Names false).bind fun v20 =>
   if v20 then
    some (eqI (t1.L.length : Int) 0)
   else
    some false
  else
   some false : Option Bool).bind fun b23 =>
  some b23
 else if eqI t1.Op 83 then
  ((zAb t1 true true false).bind fun v33 =>
  if v33 then
   if eqI t1.N 0 then
    (zBp fuel t1.S).bind fun v38 =>
    if v38 then
     (some [6, 7]).bind fun l41 =>
     (zAp fuel t1 l41).bind fun v45 =>
     some v45
    else
     some false
   else if eqI t1.N 1 then
    (zBp fuel t1.S).bind fun v50 =>
    if v50 then
     (some [6, 7]).bind fun l53 =>
     (zAp fuel t1 l53).bind fun v57 =>
     some v57
    else
     some false
   else
    some false
  else
   some false : Option Bool).bind fun b60 =>
  some b60
 else if eqI t1.Op 84 then
  ((zAb t1 false false false).bind fun v77 =>
  if v77 then
   (some [7, 7]).bind fun l80 =>
   (zAp fuel t1 l80).bind fun v84 =>
   some v84
  else
   some false : Option Bool).bind fun b86 =>
  some b86
 else if (eqI t1.Op 85) || (eqI t1.Op 86) then
  ((zAb t1 false false false).bind fun v96 =>
  if v96 then
   (some [7, 6]).bind fun l99 =>
   (zAp fuel t1 l99).bind fun v103 =>
   some v103
  else
   some false : Option Bool).bind fun b105 =>
  some b105
 else if eqI t1.Op 87 then
  ((zAb t1 false false false).bind fun v116 =>
  if v116 then
   if leI 1 (t1.L.length : Int) then
    (zB3 fuel t1 0 ((t1.L.length : Int) - 1) 4).bind fun v123 =>
    if v123 then
     (zB3 fuel t1 ((t1.L.length : Int) - 1) (t1.L.length : Int) 7).bind fun v127 =>
     some v127
    else
     some false
   else
    some false
  else
   some false : Option Bool).bind fun b131 =>
  some b131
 else
  ((zAb t1 false false false).bind fun v141 =>
  if v141 then
   (some [3, 0]).bind fun l144 =>
   (zAp fuel t1 l144).bind fun v148 =>
   some v148
  else
   some false : Option Bool).bind fun b150 =>
  some b150
def zAa (fuel : Nat) (t1 : zJC) (anonymous2 : Bool) : Option (Bool) :=
 (zAQ t1.Op).bind fun v3 =>
 if (eqI t1.Op 43) && (!(eqB (eqS t1.S ([] : List UInt8)) anonymous2)) then
  some false
 else if eqI v3 1 then
  (zCr fuel t1).bind fun v15 =>
  some v15
 else if eqI v3 2 then
  (zC8 fuel t1).bind fun v21 =>
  some v21
 else if (eqI v3 3) || (eqI t1.Op 30) then
  (zBH fuel t1).bind fun v29 =>
  some v29
 else if (eqI v3 4) || (eqI t1.Op 45) then
  (zBj fuel t1).bind fun v40 =>
  some v40
 else if (eqI v3 5) || (eqI v3 6) then
  (zBi fuel t1).bind fun v51 =>
  some v51
 else
  (if eqI v3 7 then
   (zCK fuel t1).bind fun v60 =>
   some v60
  else
   some false : Option Bool).bind fun b63 =>
  some b63
def zB8 (F_ref03_nodes : zJC → Bool → Option (Bool)) (t1 : zJC) : Nat → Nat → Option ((Bool) ⊕ (Unit))
 | 0, _ => none
 | k13 + 1, i8 =>
  if ltI ((i8 : Nat) : Int) (t1.L.length : Int) then
   ((t1.L[i8]?).bind fun x17 =>
   if eqI t1.Op 74 then
    (F_ref03_nodes x17 (eqI ((i8 : Nat) : Int) 1)).bind fun v21 =>
    some (!v21)
   else
    (F_ref03_nodes x17 false).bind fun v24 =>
    some (!v24) : Option Bool).bind fun b26 =>
   if b26 then
    some (.inl false)
   else
    zB8 F_ref03_nodes t1 k13 (i8 + 1)
  else
   some (.inr ())
def zC9 : Nat → zJC → Bool → Option (Bool)
 | 0, _, _ => none
 | fuel + 1, t1, anonymous2 =>
  (zAa fuel t1 anonymous2).bind fun v3 =>
  if !v3 then
   some false
  else
   (zB8 (zC9 fuel) t1 fuel 0).bind fun o => Sum.elim some (fun o9 =>
    some true) o
def zEi (fuel : Nat) (t1 : zJC) : Option (Bool) :=
 ((zDQ fuel t1).bind fun v2 =>
 if leI v2 20000 then
  (zDC fuel t1).bind fun v6 =>
  if leI v6 400 then
   (zC9 fuel t1 false).bind fun v10 =>
   some v10
  else
   some false
 else
  some false : Option Bool).bind fun b14 =>
 some b14
def zDq (fuel : Nat) (cat1 : Int) (t2 : zJC) : Option (Bool) :=
 (if leI 1 cat1 then
  if leI cat1 7 then
   (zDA t2.Op cat1).bind fun v7 =>
   if v7 then
    (zEi fuel t2).bind fun v10 =>
    some v10
   else
    some false
  else
   some false
 else
  some false : Option Bool).bind fun b14 =>
 some b14
def zDp (n1 : Int) : Option (Int) :=
 if eqI n1 1 then
  some 1
 else if eqI n1 2 then
  some 2
 else if eqI n1 3 then
  some 3
 else if eqI n1 4 then
  some 3
 else if eqI n1 5 then
  some 3
 else if eqI n1 6 then
  some 4
 else if eqI n1 7 then
  some 5
 else if eqI n1 8 then
  some 5
 else if eqI n1 9 then
  some 6
 else if eqI n1 10 then
  some 6
 else if eqI n1 11 then
  some 6
 else if eqI n1 12 then
  some 7
 else
  some 0
def zE2 (t1 : zJC) : Option (Int) :=
 if eqI t1.Op 4 then
  some 1
 else if eqI t1.Op 74 then
  some 1
 else if eqI t1.Op 85 then
  some 1
 else if eqI t1.Op 86 then
  some 1
 else if eqI t1.Op 2 then
  if ltI 0 (t1.L.length : Int) then
   some 2
  else
   some 3
 else if eqI t1.Op 1 then
  some 3
 else if eqI t1.Op 5 then
  some 3
 else if eqI t1.Op 81 then
  some 3
 else if eqI t1.Op 82 then
  some 3
 else if eqI t1.Op 87 then
  some 3
 else if eqI t1.Op 88 then
  some 3
 else if eqI t1.Op 14 then
  if ltI 0 (t1.L.length : Int) then
   some 0
  else
   some 1
 else if eqI t1.Op 11 then
  some 1
 else if eqI t1.Op 12 then
  some 1
 else if eqI t1.Op 13 then
  some 1
 else if eqI t1.Op 15 then
  some 1
 else if eqI t1.Op 32 then
  (zDp t1.N).bind fun v62 =>
  some v62
 else if eqI t1.Op 26 then
  some 8
 else if eqI t1.Op 21 then
  some 9
 else if eqI t1.Op 22 then
  some 9
 else if eqI t1.Op 23 then
  some 9
 else if eqI t1.Op 24 then
  some 9
 else if eqI t1.Op 27 then
  some 9
 else if eqI t1.Op 29 then
  some 9
 else if eqI t1.Op 31 then
  some 9
 else if eqI t1.Op 33 then
  some 9
 else if eqI t1.Op 34 then
  some 9
 else if eqI t1.Op 71 then
  some 2
 else if eqI t1.Op 72 then
  some 2
 else if eqI t1.Op 84 then
  some 2
 else
  some 0
def zCB (l1 : (List (List UInt8))) (between2 : (List UInt8)) : Nat → (List UInt8) → Nat → Option ((List UInt8))
 | 0, _, _ => none
 | k8 + 1, s3, i4 =>
  if ltI ((i4 : Nat) : Int) (l1.length : Int) then
   if ltI 0 ((i4 : Nat) : Int) then
    (cat s3 between2).bind fun s14 =>
    (l1[i4]?).bind fun x18 =>
    (cat s14 x18).bind fun s20 =>
    zCB l1 between2 k8 s20 (i4 + 1)
   else
    (l1[i4]?).bind fun x26 =>
    (cat s3 x26).bind fun s28 =>
    zCB l1 between2 k8 s28 (i4 + 1)
  else
   some s3
def zCi (fuel : Nat) (l1 : (List (List UInt8))) (between2 : (List UInt8)) : Option ((List UInt8)) :=
 (zCB l1 between2 fuel ([] : List UInt8) 0).bind fun o5 =>
 some o5
def zBq (fuel : Nat) (l1 : (List (List UInt8))) : Option ((List UInt8)) :=
 (zCi fuel l1 [46]).bind fun v2 =>
 some v2
def zCk : Nat → Int → Option ((List UInt8))
 | 0, _ => none
 | fuel + 1, n1 =>
  if ltI 9 n1 then
   (chk .i64 (Int.tdiv n1 10)).bind fun n4 =>
   ((zCk fuel) n4).bind fun v8 =>
   ((zCk fuel) (Int.tmod n1 10)).bind fun v12 =>
   (cat v8 v12).bind fun s14 =>
   some s14
  else
   (chk .i64 (48 + n1)).bind fun n21 =>
   (chk .u8 (n21)).bind fun n26 =>
   some [(UInt8.ofNat (Int.toNat n26))]
def zDO (fuel : Nat) (n1 : Int) : Option ((List UInt8)) :=
 if ltI n1 0 then
  (chk .i64 (0 - n1)).bind fun n4 =>
  (zCk fuel n4).bind fun v9 =>
  (cat [126, 32] v9).bind fun s11 =>
  some s11
 else
  (zCk fuel n1).bind fun v17 =>
  some v17
def zCA (s1 : (List UInt8)) : Nat → (List UInt8) → Nat → Option ((List UInt8))
 | 0, _, _ => none
 | k7 + 1, out2, i3 =>
  if ltI ((i3 : Nat) : Int) (s1.length : Int) then
   (s1[i3]?).bind fun c11 =>
   if eqI (c11.toNat : Int) 34 then
    (cat out2 [92, 34]).bind fun s15 =>
    zCA s1 k7 s15 (i3 + 1)
   else if eqI (c11.toNat : Int) 92 then
    (cat out2 [92, 92]).bind fun s23 =>
    zCA s1 k7 s23 (i3 + 1)
   else if eqI (c11.toNat : Int) 10 then
    (cat out2 [92, 110]).bind fun s31 =>
    zCA s1 k7 s31 (i3 + 1)
   else
    (subC s1 ((i3 : Nat) : Int) ((i3 + 1 : Nat) : Int)).bind fun s38 =>
    (cat out2 s38).bind fun s42 =>
    zCA s1 k7 s42 (i3 + 1)
  else
   some out2
def zEP (fuel : Nat) (s1 : (List UInt8)) : Option ((List UInt8)) :=
 (zCA s1 fuel [34] 0).bind fun o4 =>
 (cat o4 [34]).bind fun s50 =>
 some s50
def zBc (n1 : Int) : Option ((List UInt8)) :=
 (some [([] : List UInt8), [111, 114, 101, 108, 115, 101], [97, 110, 100, 97, 108, 115, 111], [61], [60], [60, 61], [94], [43], [45], [42], [100, 105, 118], [109, 111, 100], [126]]).bind fun l2 =>
 (idx l2 n1).bind fun x6 =>
 some x6
def zCh (fuel : Nat) (l1 : (List (List UInt8))) : Option ((List UInt8)) :=
 if eqI (l1.length : Int) 0 then
  some ([] : List UInt8)
 else if eqI (l1.length : Int) 1 then
  (l1[0]?).bind fun x7 =>
  (cat x7 [32]).bind fun s9 =>
  some s9
 else
  (zCi fuel l1 [44, 32]).bind fun v14 =>
  (cat [40] v14).bind fun s16 =>
  (cat s16 [41, 32]).bind fun s20 =>
  some s20
def zC6 (F_ref06_at : zJC → Int → Option ((List UInt8))) (l1 : (List zJC)) (level2 : Int) : Nat → (List (List UInt8)) → Nat → Option ((List (List UInt8)))
 | 0, _, _ => none
 | k9 + 1, out4, i5 =>
  if ltI ((i5 : Nat) : Int) (l1.length : Int) then
   (l1[i5]?).bind fun x13 =>
   (F_ref06_at x13 level2).bind fun v15 =>
   (app 16 out4 [v15]).bind fun l17 =>
   zC6 F_ref06_at l1 level2 k9 l17 (i5 + 1)
  else
   some out4
def zCa (F_ref06_text : zJC → Option ((List UInt8))) (l1 : (List zJC)) : Nat → (List UInt8) → Nat → Option ((List UInt8))
 | 0, _, _ => none
 | k7 + 1, s2, i3 =>
  if ltI ((i3 : Nat) : Int) (l1.length : Int) then
   (l1[i3]?).bind fun x11 =>
   (F_ref06_text x11).bind fun v13 =>
   (cat s2 v13).bind fun s15 =>
   (cat s15 [32]).bind fun s19 =>
   zCa F_ref06_text l1 k7 s19 (i3 + 1)
  else
   some s2
mutual
def zCj : Nat → zJC → Option ((List UInt8))
 | 0, _ => none
 | fuel + 1, t1 =>
  if eqI t1.N 1 then
   (cat [102, 117, 110, 99, 116, 111, 114, 32, 40] t1.S).bind fun s4 =>
   (cat s4 [32, 58, 32]).bind fun s8 =>
   (t1.L[0]?).bind fun x12 =>
   ((zAN fuel) x12).bind fun v14 =>
   (cat s8 v14).bind fun s16 =>
   (cat s16 [41, 32, 61, 62, 32]).bind fun s20 =>
   some s20
  else
   (cat [103, 101, 110, 101, 114, 97, 116, 105, 118, 101, 32, 40] t1.S).bind fun s26 =>
   (cat s26 [32, 58, 32]).bind fun s30 =>
   (t1.L[0]?).bind fun x34 =>
   ((zAN fuel) x34).bind fun v36 =>
   (cat s30 v36).bind fun s38 =>
   (cat s38 [41, 32, 61, 62, 32]).bind fun s42 =>
   some s42
def zBb : Nat → zJC → Option ((List UInt8))
 | 0, _ => none
 | fuel + 1, t1 =>
  if eqI t1.Op 71 then
   ((zC3 fuel) t1.L).bind fun v4 =>
   (cat [115, 105, 103, 32] v4).bind fun s6 =>
   (cat s6 [101, 110, 100]).bind fun s10 =>
   some s10
  else if eqI t1.Op 81 then
   ((zC3 fuel) t1.L).bind fun v18 =>
   (cat [115, 116, 114, 117, 99, 116, 32] v18).bind fun s20 =>
   (cat s20 [101, 110, 100]).bind fun s24 =>
   some s24
  else if eqI t1.Op 72 then
   (zBq fuel t1.Names).bind fun v32 =>
   some v32
  else if eqI t1.Op 82 then
   (zBq fuel t1.Names).bind fun v38 =>
   some v38
  else if eqI t1.Op 73 then
   ((zCj fuel) t1).bind fun v44 =>
   (t1.L[1]?).bind fun x46 =>
   ((zAN fuel) x46).bind fun v48 =>
   (cat v44 v48).bind fun s50 =>
   some s50
  else if eqI t1.Op 83 then
   ((zCj fuel) t1).bind fun v59 =>
   (t1.L[1]?).bind fun x61 =>
   ((zAN fuel) x61).bind fun v63 =>
   (cat v59 v63).bind fun s65 =>
   some s65
  else if eqI t1.Op 74 then
   (t1.L[0]?).bind fun x74 =>
   ((zA2 fuel) x74 1).bind fun v76 =>
   (cat v76 [32, 119, 105, 116, 104, 32, 116, 121, 112, 101, 32]).bind fun s78 =>
   (t1.L[1]?).bind fun x82 =>
   (zCh fuel x82.Names).bind fun v84 =>
   (cat s78 v84).bind fun s86 =>
   (zBq fuel t1.Names).bind fun v90 =>
   (cat s86 v90).bind fun s92 =>
   (cat s92 [32, 61, 32]).bind fun s96 =>
   (x82.L[0]?).bind fun x100 =>
   ((zAN fuel) x100).bind fun v102 =>
   (cat s96 v102).bind fun s104 =>
   some s104
  else if eqI t1.Op 84 then
   (t1.L[0]?).bind fun x115 =>
   ((zA2 fuel) x115 2).bind fun v117 =>
   (cat v117 [32, 40]).bind fun s119 =>
   (t1.L[1]?).bind fun x123 =>
   ((zAN fuel) x123).bind fun v125 =>
   (cat s119 v125).bind fun s127 =>
   (cat s127 [41]).bind fun s131 =>
   some s131
  else if eqI t1.Op 85 then
   (t1.L[0]?).bind fun x140 =>
   ((zA2 fuel) x140 1).bind fun v142 =>
   (cat v142 [32, 58, 62, 32]).bind fun s144 =>
   (t1.L[1]?).bind fun x148 =>
   ((zA2 fuel) x148 2).bind fun v150 =>
   (cat s144 v150).bind fun s152 =>
   some s152
  else if eqI t1.Op 86 then
   (t1.L[0]?).bind fun x161 =>
   ((zA2 fuel) x161 1).bind fun v163 =>
   (cat v163 [32, 58, 32]).bind fun s165 =>
   (t1.L[1]?).bind fun x169 =>
   ((zA2 fuel) x169 2).bind fun v171 =>
   (cat s165 v171).bind fun s173 =>
   some s173
  else
   (t1.L[0]?).bind fun x180 =>
   ((zA2 fuel) x180 9).bind fun v182 =>
   (cat [117, 110, 112, 97, 99, 107, 32] v182).bind fun s184 =>
   (cat s184 [32, 58, 32]).bind fun s188 =>
   (t1.L[1]?).bind fun x192 =>
   ((zA2 fuel) x192 2).bind fun v194 =>
   (cat s188 v194).bind fun s196 =>
   some s196
def zAh : Nat → zJC → Option ((List UInt8))
 | 0, _ => none
 | fuel + 1, t1 =>
  if eqI t1.Op 41 then
   (cat [118, 97, 108, 32] t1.S).bind fun s4 =>
   (cat s4 [32, 61, 32]).bind fun s8 =>
   (t1.L[0]?).bind fun x12 =>
   ((zAN fuel) x12).bind fun v14 =>
   (cat s8 v14).bind fun s16 =>
   some s16
  else if eqI t1.Op 42 then
   (cat [102, 117, 110, 32] t1.S).bind fun s24 =>
   (cat s24 [32]).bind fun s28 =>
   (zCi fuel t1.Names [32]).bind fun v32 =>
   (cat s28 v32).bind fun s34 =>
   (cat s34 [32, 61, 32]).bind fun s38 =>
   (t1.L[0]?).bind fun x42 =>
   ((zAN fuel) x42).bind fun v44 =>
   (cat s38 v44).bind fun s46 =>
   some s46
  else if eqI t1.Op 43 then
   (zCh fuel t1.Names).bind fun v55 =>
   (cat [116, 121, 112, 101, 32] v55).bind fun s57 =>
   (cat s57 t1.S).bind fun s61 =>
   (cat s61 [32, 61, 32]).bind fun s65 =>
   (t1.L[0]?).bind fun x69 =>
   ((zAN fuel) x69).bind fun v71 =>
   (cat s65 v71).bind fun s73 =>
   some s73
  else if eqI t1.Op 44 then
   (zCh fuel t1.Names).bind fun v82 =>
   (cat [100, 97, 116, 97, 32] v82).bind fun s84 =>
   (cat s84 t1.S).bind fun s88 =>
   (cat s88 [32, 61, 32]).bind fun s92 =>
   ((zCw fuel) t1.L 0 [32, 124, 32]).bind fun v96 =>
   (cat s92 v96).bind fun s98 =>
   some s98
  else if eqI t1.Op 45 then
   if eqI (t1.L.length : Int) 0 then
    some t1.S
   else
    (cat t1.S [32, 111, 102, 32]).bind fun s110 =>
    (t1.L[0]?).bind fun x114 =>
    ((zAN fuel) x114).bind fun v116 =>
    (cat s110 v116).bind fun s118 =>
    some s118
  else if eqI t1.Op 46 then
   (cat [115, 116, 114, 117, 99, 116, 117, 114, 101, 32] t1.S).bind fun s126 =>
   (cat s126 [32, 61, 32]).bind fun s130 =>
   (t1.L[0]?).bind fun x134 =>
   ((zAN fuel) x134).bind fun v136 =>
   (cat s130 v136).bind fun s138 =>
   some s138
  else if eqI t1.Op 47 then
   (cat [115, 105, 103, 110, 97, 116, 117, 114, 101, 32] t1.S).bind fun s146 =>
   (cat s146 [32, 61, 32]).bind fun s150 =>
   (t1.L[0]?).bind fun x154 =>
   ((zAN fuel) x154).bind fun v156 =>
   (cat s150 v156).bind fun s158 =>
   some s158
  else if eqI t1.Op 64 then
   (cat [115, 105, 103, 110, 97, 116, 117, 114, 101, 32] t1.S).bind fun s166 =>
   (cat s166 [32, 61, 32]).bind fun s170 =>
   (t1.L[0]?).bind fun x174 =>
   ((zAN fuel) x174).bind fun v176 =>
   (cat s170 v176).bind fun s178 =>
   some s178
  else if eqI t1.Op 48 then
   (zBq fuel t1.Names).bind fun v186 =>
   (cat [111, 112, 101, 110, 32] v186).bind fun s188 =>
   some s188
  else if eqI t1.Op 49 then
   (zBq fuel t1.Names).bind fun v196 =>
   (cat [105, 110, 99, 108, 117, 100, 101, 32] v196).bind fun s198 =>
   some s198
  else if eqI t1.Op 50 then
   (cat [115, 116, 114, 117, 99, 116, 117, 114, 101, 32] t1.S).bind fun s206 =>
   (cat s206 [32, 61, 32, 117, 110, 112, 97, 99, 107, 32]).bind fun s210 =>
   (t1.L[0]?).bind fun x214 =>
   ((zA2 fuel) x214 9).bind fun v216 =>
   (cat s210 v216).bind fun s218 =>
   (cat s218 [32, 58, 32]).bind fun s222 =>
   (t1.L[1]?).bind fun x226 =>
   ((zA2 fuel) x226 2).bind fun v228 =>
   (cat s222 v228).bind fun s230 =>
   some s230
  else if eqI t1.Op 61 then
   (cat [118, 97, 108, 32] t1.S).bind fun s239 =>
   (cat s239 [32, 58, 32]).bind fun s243 =>
   (t1.L[0]?).bind fun x247 =>
   ((zAN fuel) x247).bind fun v249 =>
   (cat s243 v249).bind fun s251 =>
   some s251
  else if eqI t1.Op 62 then
   (zCh fuel t1.Names).bind fun v259 =>
   (cat [116, 121, 112, 101, 32] v259).bind fun s261 =>
   (cat s261 t1.S).bind fun s265 =>
   some s265
  else if eqI t1.Op 63 then
   (cat [115, 116, 114, 117, 99, 116, 117, 114, 101, 32] t1.S).bind fun s273 =>
   (cat s273 [32, 58, 32]).bind fun s277 =>
   (t1.L[0]?).bind fun x281 =>
   ((zAN fuel) x281).bind fun v283 =>
   (cat s277 v283).bind fun s285 =>
   some s285
  else if eqI t1.Op 65 then
   (t1.L[0]?).bind fun x293 =>
   ((zAN fuel) x293).bind fun v295 =>
   (cat [105, 110, 99, 108, 117, 100, 101, 32] v295).bind fun s297 =>
   some s297
  else
   (zBq fuel t1.Names).bind fun v303 =>
   (cat [115, 104, 97, 114, 105, 110, 103, 32, 116, 121, 112, 101, 32] v303).bind fun s305 =>
   (cat s305 [32, 61, 32]).bind fun s309 =>
   (t1.L[0]?).bind fun x313 =>
   ((zAN fuel) x313).bind fun v315 =>
   (cat s309 v315).bind fun s317 =>
   some s317
def zBC : Nat → zJC → Option ((List UInt8))
 | 0, _ => none
 | fuel + 1, t1 =>
  (zDp t1.N).bind fun v2 =>
  (chk .i64 (v2 + 1)).bind fun n4 =>
  if eqI t1.N 12 then
   (t1.L[0]?).bind fun x11 =>
   ((zA2 fuel) x11 7).bind fun v13 =>
   (cat [126, 32] v13).bind fun s15 =>
   some s15
  else if eqI t1.N 1 then
   (t1.L[0]?).bind fun x24 =>
   ((zA2 fuel) x24 n4).bind fun v26 =>
   (cat v26 [32]).bind fun s28 =>
   (zBc t1.N).bind fun v32 =>
   (cat s28 v32).bind fun s34 =>
   (cat s34 [32]).bind fun s38 =>
   (t1.L[1]?).bind fun x42 =>
   ((zA2 fuel) x42 v2).bind fun v44 =>
   (cat s38 v44).bind fun s46 =>
   some s46
  else if eqI t1.N 2 then
   (t1.L[0]?).bind fun x57 =>
   ((zA2 fuel) x57 n4).bind fun v59 =>
   (cat v59 [32]).bind fun s61 =>
   (zBc t1.N).bind fun v65 =>
   (cat s61 v65).bind fun s67 =>
   (cat s67 [32]).bind fun s71 =>
   (t1.L[1]?).bind fun x75 =>
   ((zA2 fuel) x75 v2).bind fun v77 =>
   (cat s71 v77).bind fun s79 =>
   some s79
  else if eqI t1.N 6 then
   (t1.L[0]?).bind fun x90 =>
   ((zA2 fuel) x90 n4).bind fun v92 =>
   (cat v92 [32]).bind fun s94 =>
   (zBc t1.N).bind fun v98 =>
   (cat s94 v98).bind fun s100 =>
   (cat s100 [32]).bind fun s104 =>
   (t1.L[1]?).bind fun x108 =>
   ((zA2 fuel) x108 v2).bind fun v110 =>
   (cat s104 v110).bind fun s112 =>
   some s112
  else if eqI t1.N 3 then
   (t1.L[0]?).bind fun x123 =>
   ((zA2 fuel) x123 n4).bind fun v125 =>
   (cat v125 [32]).bind fun s127 =>
   (zBc t1.N).bind fun v131 =>
   (cat s127 v131).bind fun s133 =>
   (cat s133 [32]).bind fun s137 =>
   (t1.L[1]?).bind fun x141 =>
   ((zA2 fuel) x141 n4).bind fun v143 =>
   (cat s137 v143).bind fun s145 =>
   some s145
  else if eqI t1.N 4 then
   (t1.L[0]?).bind fun x156 =>
   ((zA2 fuel) x156 n4).bind fun v158 =>
   (cat v158 [32]).bind fun s160 =>
   (zBc t1.N).bind fun v164 =>
   (cat s160 v164).bind fun s166 =>
   (cat s166 [32]).bind fun s170 =>
   (t1.L[1]?).bind fun x174 =>
   ((zA2 fuel) x174 n4).bind fun v176 =>
   (cat s170 v176).bind fun s178 =>
   some s178
  else if eqI t1.N 5 then
   (t1.L[0]?).bind fun x189 =>
   ((zA2 fuel) x189 n4).bind fun v191 =>
   (cat v191 [32]).bind fun s193 =>
   (zBc t1.N).bind fun v197 =>
   (cat s193 v197).bind fun s199 =>
   (cat s199 [32]).bind fun s203 =>
   (t1.L[1]?).bind fun x207 =>
   ((zA2 fuel) x207 n4).bind fun v209 =>
   (cat s203 v209).bind fun s211 =>
   some s211
  else
   (t1.L[0]?).bind fun x219 =>
   ((zA2 fuel) x219 v2).bind fun v221 =>
   (cat v221 [32]).bind fun s223 =>
   (zBc t1.N).bind fun v227 =>
   (cat s223 v227).bind fun s229 =>
   (cat s229 [32]).bind fun s233 =>
   (t1.L[1]?).bind fun x237 =>
   ((zA2 fuel) x237 n4).bind fun v239 =>
   (cat s233 v239).bind fun s241 =>
   some s241
def zAX : Nat → zJC → Option ((List UInt8))
 | 0, _ => none
 | fuel + 1, t1 =>
  if eqI t1.Op 11 then
   some [95]
  else if eqI t1.Op 12 then
   some t1.S
  else if eqI t1.Op 13 then
   (zDO fuel t1.N).bind fun v10 =>
   some v10
  else if eqI t1.Op 21 then
   (zDO fuel t1.N).bind fun v16 =>
   some v16
  else if eqI t1.Op 14 then
   if eqI (t1.L.length : Int) 0 then
    (zBq fuel t1.Names).bind fun v24 =>
    some v24
   else
    (zBq fuel t1.Names).bind fun v28 =>
    (cat v28 [32]).bind fun s30 =>
    (t1.L[0]?).bind fun x34 =>
    ((zA2 fuel) x34 1).bind fun v36 =>
    (cat s30 v36).bind fun s38 =>
    some s38
  else if eqI t1.Op 15 then
   ((zCw fuel) t1.L 0 [44, 32]).bind fun v47 =>
   (cat [40] v47).bind fun s49 =>
   (cat s49 [41]).bind fun s53 =>
   some s53
  else if eqI t1.Op 27 then
   ((zCw fuel) t1.L 0 [44, 32]).bind fun v61 =>
   (cat [40] v61).bind fun s63 =>
   (cat s63 [41]).bind fun s67 =>
   some s67
  else if eqI t1.Op 22 then
   (zEP fuel t1.S).bind fun v75 =>
   some v75
  else if eqI t1.Op 23 then
   (zBq fuel t1.Names).bind fun v81 =>
   some v81
  else if eqI t1.Op 24 then
   (zBq fuel t1.Names).bind fun v87 =>
   some v87
  else if eqI t1.Op 25 then
   if eqS t1.S ([] : List UInt8) then
    (t1.L[0]?).bind fun x94 =>
    ((zAN fuel) x94).bind fun v96 =>
    (cat [102, 110, 32, 95, 32, 61, 62, 32] v96).bind fun s98 =>
    some s98
   else
    (cat [102, 110, 32] t1.S).bind fun s103 =>
    (cat s103 [32, 61, 62, 32]).bind fun s107 =>
    (t1.L[0]?).bind fun x111 =>
    ((zAN fuel) x111).bind fun v113 =>
    (cat s107 v113).bind fun s115 =>
    some s115
  else if eqI t1.Op 26 then
   (t1.L[0]?).bind fun x123 =>
   ((zA2 fuel) x123 8).bind fun v125 =>
   (cat v125 [32]).bind fun s127 =>
   (t1.L[1]?).bind fun x131 =>
   ((zA2 fuel) x131 9).bind fun v133 =>
   (cat s127 v133).bind fun s135 =>
   some s135
  else if eqI t1.Op 28 then
   (t1.L[0]?).bind fun x144 =>
   ((zAN fuel) x144).bind fun v146 =>
   (cat [105, 102, 32] v146).bind fun s148 =>
   (cat s148 [32, 116, 104, 101, 110, 32]).bind fun s152 =>
   (t1.L[1]?).bind fun x156 =>
   ((zAN fuel) x156).bind fun v158 =>
   (cat s152 v158).bind fun s160 =>
   (cat s160 [32, 101, 108, 115, 101, 32]).bind fun s164 =>
   (t1.L[2]?).bind fun x168 =>
   ((zAN fuel) x168).bind fun v170 =>
   (cat s164 v170).bind fun s172 =>
   some s172
  else if eqI t1.Op 29 then
   (t1.L[0]?).bind fun x182 =>
   ((zAN fuel) x182).bind fun v184 =>
   (cat [99, 97, 115, 101, 32] v184).bind fun s186 =>
   (cat s186 [32, 111, 102, 32]).bind fun s190 =>
   (subC t1.L 1 (t1.L.length : Int)).bind fun l194 =>
   ((zCw fuel) l194 0 [32, 124, 32]).bind fun v198 =>
   (cat s190 v198).bind fun s200 =>
   (cat s200 [32, 101, 110, 100]).bind fun s204 =>
   some s204
  else if eqI t1.Op 30 then
   (t1.L[0]?).bind fun x213 =>
   ((zAN fuel) x213).bind fun v215 =>
   (cat v215 [32, 61, 62, 32]).bind fun s217 =>
   (t1.L[1]?).bind fun x221 =>
   ((zAN fuel) x221).bind fun v223 =>
   (cat s217 v223).bind fun s225 =>
   some s225
  else if eqI t1.Op 32 then
   ((zBC fuel) t1).bind fun v234 =>
   some v234
  else if eqI t1.Op 33 then
   (t1.L[0]?).bind fun x240 =>
   ((zAN fuel) x240).bind fun v242 =>
   (cat [40] v242).bind fun s244 =>
   (cat s244 [32, 58, 32]).bind fun s248 =>
   (t1.L[1]?).bind fun x252 =>
   ((zAN fuel) x252).bind fun v254 =>
   (cat s248 v254).bind fun s256 =>
   (cat s256 [41]).bind fun s260 =>
   some s260
  else
   (zBq fuel t1.Names).bind fun v267 =>
   (cat [40, 112, 97, 99, 107, 32] v267).bind fun s269 =>
   (cat s269 [32, 58, 32]).bind fun s273 =>
   (t1.L[0]?).bind fun x277 =>
   ((zAN fuel) x277).bind fun v279 =>
   (cat s273 v279).bind fun s281 =>
   (cat s281 [41]).bind fun s285 =>
   some s285
def zCw : Nat → (List zJC) → Int → (List UInt8) → Option ((List UInt8))
 | 0, _, _, _ => none
 | fuel + 1, l1, level2, between3 =>
  (zC6 (zA2 fuel) l1 level2 fuel ([] : List (List UInt8)) 0).bind fun o6 =>
  (zCi fuel o6 between3).bind fun v26 =>
  some v26
def zA2 : Nat → zJC → Int → Option ((List UInt8))
 | 0, _, _ => none
 | fuel + 1, t1, level2 =>
  (zE2 t1).bind fun v3 =>
  if ltI v3 level2 then
   ((zAN fuel) t1).bind fun v7 =>
   (cat [40] v7).bind fun s9 =>
   (cat s9 [41]).bind fun s13 =>
   some s13
  else
   ((zAN fuel) t1).bind fun v19 =>
   some v19
def zCp : Nat → zJC → Option ((List UInt8))
 | 0, _ => none
 | fuel + 1, t1 =>
  if eqI t1.Op 1 then
   some t1.S
  else if eqI t1.Op 3 then
   (t1.L[0]?).bind fun x7 =>
   ((zA2 fuel) x7 1).bind fun v9 =>
   (cat v9 [32, 45, 62, 32]).bind fun s11 =>
   (t1.L[1]?).bind fun x15 =>
   ((zA2 fuel) x15 0).bind fun v17 =>
   (cat s11 v17).bind fun s19 =>
   some s19
  else if eqI t1.Op 4 then
   ((zCw fuel) t1.L 2 [32, 42, 32]).bind fun v28 =>
   some v28
  else if eqI t1.Op 5 then
   (zBq fuel t1.Names).bind fun v34 =>
   (cat [40, 109, 111, 100, 117, 108, 101, 32] v34).bind fun s36 =>
   (cat s36 [41]).bind fun s40 =>
   some s40
  else if eqI (t1.L.length : Int) 0 then
   (zBq fuel t1.Names).bind fun v48 =>
   some v48
  else if eqI (t1.L.length : Int) 1 then
   (t1.L[0]?).bind fun x54 =>
   ((zA2 fuel) x54 2).bind fun v56 =>
   (cat v56 [32]).bind fun s58 =>
   (zBq fuel t1.Names).bind fun v62 =>
   (cat s58 v62).bind fun s64 =>
   some s64
  else
   ((zCw fuel) t1.L 0 [44, 32]).bind fun v71 =>
   (cat [40] v71).bind fun s73 =>
   (cat s73 [41, 32]).bind fun s77 =>
   (zBq fuel t1.Names).bind fun v81 =>
   (cat s77 v81).bind fun s83 =>
   some s83
def zC3 : Nat → (List zJC) → Option ((List UInt8))
 | 0, _ => none
 | fuel + 1, l1 =>
  (zCa (zAN fuel) l1 fuel ([] : List UInt8) 0).bind fun o4 =>
  some o4
def zAN : Nat → zJC → Option ((List UInt8))
 | 0, _ => none
 | fuel + 1, t1 =>
  if (eqI t1.Op 31) || (eqI t1.Op 87) then
   (chk .i64 ((t1.L.length : Int) - 1)).bind fun n6 =>
   (subC t1.L 0 n6).bind fun l11 =>
   ((zC3 fuel) l11).bind fun v15 =>
   (cat [108, 101, 116, 32] v15).bind fun s17 =>
   (cat s17 [105, 110, 32]).bind fun s21 =>
   (idx t1.L n6).bind fun x25 =>
   ((zAN fuel) x25).bind fun v29 =>
   (cat s21 v29).bind fun s31 =>
   (cat s31 [32, 101, 110, 100]).bind fun s35 =>
   some s35
  else if leI t1.Op 5 then
   ((zCp fuel) t1).bind fun v47 =>
   some v47
  else if leI t1.Op 34 then
   ((zAX fuel) t1).bind fun v53 =>
   some v53
  else if leI t1.Op 66 then
   ((zAh fuel) t1).bind fun v59 =>
   some v59
  else
   ((zBb fuel) t1).bind fun v63 =>
   some v63
end
def zFP (fuel : Nat) (cat1 : Int) (t2 : zJC) : Option ((List UInt8) × Int) :=
 (zDq fuel cat1 t2).bind fun v3 =>
 if !v3 then
  some (([] : List UInt8), 1)
 else
  (zAN fuel t2).bind fun v8 =>
  if ltI 16384 (v8.length : Int) then
   some (([] : List UInt8), 5)
  else
   some (v8, 0)
def zEI (fuel : Nat) (t1 : zJC) : Option (Bool) :=
 (zDy fuel 4 t1).bind fun v2 =>
 some (!v2)
def zAn (fuel : Nat) (s1 : (List zJC)) : Nat → Nat → Option ((Int) ⊕ (Unit))
 | 0, _ => none
 | k7 + 1, i2 =>
  if ltI ((i2 : Nat) : Int) (s1.length : Int) then
   (s1[i2]?).bind fun x11 =>
   (zEI fuel x11).bind fun v13 =>
   if v13 then
    some (.inl ((i2 : Nat) : Int))
   else
    zAn fuel s1 k7 (i2 + 1)
  else
   some (.inr ())
def zBx (fuel : Nat) (s1 : (List zJC)) : Option (Int) :=
 (zAn fuel s1 fuel 0).bind fun o => Sum.elim some (fun o3 =>
  some (-1)) o
def zBl (fuel : Nat) (s1 : (List zJC)) : Option (Bool) :=
 (zBx fuel s1).bind fun v2 =>
 some (leI 0 v2)
def zDg (fuel : Nat) (l1 : (List zJC)) : Option (Bool) :=
 (if leI (l1.length : Int) 1000 then
  (zBl fuel l1).bind fun v5 =>
  some (!v5)
 else
  some false : Option Bool).bind fun b9 =>
 some b9
def zBv (fuel : Nat) (l1 : (List zJC)) : Nat → (List UInt8) → Nat → Option ((List UInt8))
 | 0, _, _ => none
 | k7 + 1, buf2, i3 =>
  if ltI ((i3 : Nat) : Int) (l1.length : Int) then
   (l1[i3]?).bind fun x11 =>
   (zDh fuel x11).bind fun v13 =>
   (cat v13 [10]).bind fun s15 =>
   (zBA s15 buf2).bind fun v19 =>
   zBv fuel l1 k7 v19.2 (i3 + 1)
  else
   some buf2
def zDH (fuel : Nat) (l1 : (List zJC)) : Option ((List UInt8)) :=
 (zBv fuel l1 fuel ([] : List UInt8) 0).bind fun o4 =>
 (zCT o4).bind fun v27 =>
 some v27
def zEE (fuel : Nat) (l1 : (List zJC)) : Option ((List UInt8) × Int) :=
 (zDg fuel l1).bind fun v2 =>
 if !v2 then
  some (([] : List UInt8), 1)
 else
  (zDH fuel l1).bind fun v7 =>
  (zCd v7).bind fun v9 =>
  some (v9.1, v9.2)
def zCq (fuel : Nat) (l1 : (List zJC)) : Nat → (List UInt8) → Nat → Option ((List UInt8))
 | 0, _, _ => none
 | k31 + 1, s26, i27 =>
  if (ltI ((i27 : Nat) : Int) (l1.length : Int)) && (leI (s26.length : Int) 16384) then
   (l1[i27]?).bind fun x41 =>
   (zAN fuel x41).bind fun v43 =>
   (cat s26 v43).bind fun s45 =>
   (cat s45 [10]).bind fun s49 =>
   zCq fuel l1 k31 s49 (i27 + 1)
  else
   some s26
def zCU (fuel : Nat) (l1 : (List zJC)) : Nat → Nat → Option (((List UInt8) × Int) ⊕ (Unit))
 | 0, _ => none
 | k12 + 1, i7 =>
  if ltI ((i7 : Nat) : Int) (l1.length : Int) then
   (l1[i7]?).bind fun x15 =>
   (zDq fuel 4 x15).bind fun v17 =>
   if !v17 then
    some (.inl (([] : List UInt8), 1))
   else
    zCU fuel l1 k12 (i7 + 1)
  else
   some (.inr ())
def zEO (fuel : Nat) (l1 : (List zJC)) : Option ((List UInt8) × Int) :=
 if ltI 1000 (l1.length : Int) then
  some (([] : List UInt8), 1)
 else
  (zCU fuel l1 fuel 0).bind fun o => Sum.elim some (fun o8 =>
   (zCq fuel l1 fuel ([] : List UInt8) 0).bind fun o28 =>
   if ltI 16384 (o28.length : Int) then
    some (([] : List UInt8), 5)
   else
    some (o28, 0)) o
def zCO (fuel : Nat) (u1 : zJB) : Nat → Nat → Option (((List UInt8) × Int) ⊕ (Unit))
 | 0, _ => none
 | k22 + 1, i17 =>
  if ltI ((i17 : Nat) : Int) (u1.Imports.length : Int) then
   (u1.Imports[i17]?).bind fun x26 =>
   ((zBP fuel x26).bind fun v28 =>
   if !v28 then
    some true
   else
    (subC u1.Imports 0 ((i17 : Nat) : Int)).bind fun l33 =>
    (zBa fuel l33 x26).bind fun v37 =>
    some v37 : Option Bool).bind fun b39 =>
   if b39 then
    some (.inl (([] : List UInt8), 1))
   else
    zCO fuel u1 k22 (i17 + 1)
  else
   some (.inr ())
def zEj (fuel : Nat) (u1 : zJB) : Option ((List UInt8) × Int) :=
 ((zBP fuel u1.Name).bind fun v2 =>
 if !v2 then
  some true
 else if ltI 16 (u1.Imports.length : Int) then
  some true
 else
  (zDg fuel u1.Decls).bind fun v12 =>
  some (!v12) : Option Bool).bind fun b14 =>
 if b14 then
  some (([] : List UInt8), 1)
 else
  (zCO fuel u1 fuel 0).bind fun o => Sum.elim some (fun o18 =>
   (zDH fuel u1.Decls).bind fun v49 =>
   if ltI 0 (u1.Imports.length : Int) then
    (zDz u1.Imports [44, 32]).bind fun v54 =>
    (cat [105, 109, 112, 111, 114, 116, 32] v54).bind fun s56 =>
    (cat s56 [59, 10]).bind fun s60 =>
    (cat s60 v49).bind fun s64 =>
    (zCd s64).bind fun v68 =>
    some (v68.1, v68.2)
   else
    (zCd v49).bind fun v74 =>
    some (v74.1, v74.2)) o
def zB7 (u1 : zJB) (i15 : Nat) (x24 : (List UInt8)) : Nat → Nat → Option ((Bool) ⊕ (Unit))
 | 0, _ => none
 | k36 + 1, k31 =>
  if ltI ((k31 : Nat) : Int) ((i15 : Nat) : Int) then
   (u1.Imports[k31]?).bind fun x39 =>
   if eqS x39 x24 then
    some (.inl false)
   else
    zB7 u1 i15 x24 k36 (k31 + 1)
  else
   some (.inr ())
def zBr (fuel : Nat) (u1 : zJB) : Nat → Nat → Option ((Bool) ⊕ (Unit))
 | 0, _ => none
 | k55 + 1, i50 =>
  if ltI ((i50 : Nat) : Int) (u1.Decls.length : Int) then
   (u1.Decls[i50]?).bind fun x59 =>
   (zDq fuel 4 x59).bind fun v61 =>
   if !v61 then
    some (.inl false)
   else
    zBr fuel u1 k55 (i50 + 1)
  else
   some (.inr ())
def zBs (fuel : Nat) (u1 : zJB) : Nat → Nat → Option ((Bool) ⊕ (Unit))
 | 0, _ => none
 | k20 + 1, i15 =>
  if ltI ((i15 : Nat) : Int) (u1.Imports.length : Int) then
   (u1.Imports[i15]?).bind fun x24 =>
   (zBp fuel x24).bind fun v26 =>
   if !v26 then
    some (.inl false)
   else
    (zB7 u1 i15 x24 fuel 0).bind fun o => Sum.elim (fun r => some (.inl r)) (fun o32 =>
     zBs fuel u1 k20 (i15 + 1)) o
  else
   some (.inr ())
def zDe (fuel : Nat) (u1 : zJB) : Option (Bool) :=
 ((zBp fuel u1.Name).bind fun v2 =>
 if !v2 then
  some true
 else if ltI 16 (u1.Imports.length : Int) then
  some true
 else
  some (ltI 1000 (u1.Decls.length : Int)) : Option Bool).bind fun b12 =>
 if b12 then
  some false
 else
  (zBs fuel u1 fuel 0).bind fun o => Sum.elim some (fun o16 =>
   (zBr fuel u1 fuel 0).bind fun o => Sum.elim some (fun o51 =>
    some true) o) o
def zFE (fuel : Nat) (u1 : zJB) : Option ((List UInt8) × Int) :=
 (zDe fuel u1).bind fun v2 =>
 if !v2 then
  some (([] : List UInt8), 1)
 else
  (zEO fuel u1.Decls).bind fun v7 =>
  if !(eqI v7.2 0) then
   some (([] : List UInt8), v7.2)
  else if ltI 0 (u1.Imports.length : Int) then
   (zCi fuel u1.Imports [44, 32]).bind fun v17 =>
   (cat [105, 109, 112, 111, 114, 116, 32] v17).bind fun s19 =>
   (cat s19 [59, 10]).bind fun s23 =>
   (cat s23 v7.1).bind fun s27 =>
   if ltI 16384 (s27.length : Int) then
    some (([] : List UInt8), 5)
   else
    some (s27, 0)
  else if ltI 16384 (v7.1.length : Int) then
   some (([] : List UInt8), 5)
  else
   some (v7.1, 0)
def zDb (fuel : Nat) (u1 : zJB) : Option (Bool) :=
 (zE4 fuel).bind fun v2 =>
 if !v2 then
  some false
 else
  ((zE3 fuel u1.Decls).bind fun v7 =>
  if v7 then
   some true
  else if ltI 40 (u1.Imports.length : Int) then
   some true
  else
   some (ltI 100 (u1.Name.length : Int)) : Option Bool).bind fun b15 =>
  if b15 then
   some true
  else
   (zEE fuel u1.Decls).bind fun v18 =>
   (zEO fuel u1.Decls).bind fun v20 =>
   (zEj fuel u1).bind fun v22 =>
   (zFE fuel u1).bind fun v24 =>
   some ((eqS v18.1 v20.1) && ((eqI v18.2 v20.2) && ((eqS v22.1 v24.1) && (eqI v22.2 v24.2))))
end Go.Proofs.YtlhikhaailhoaaaGreatDoor
