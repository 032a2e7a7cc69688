/- For every input the law ExplainParses returns true. Part 7 of 14. No condition. -/
import Derived.Test.YtlhikhaailhoaaaDoorLGf
import Derived.Lib.Bytealg
import Derived.Lib.Join
set_option linter.unusedVariables false
set_option linter.unusedSimpArgs false
set_option maxRecDepth 100000
set_option maxHeartbeats 1000000
namespace Go.Proofs.YtlhikhaailhoaaaDoor
open Go Go.Abs
def M.ident_of (c1 : UInt8) : Option (Int) :=
  if (leI 97 (c1.toNat : Int)) && (leI (c1.toNat : Int) 122) then
    some 1
  else
    if (leI 65 (c1.toNat : Int)) && (leI (c1.toNat : Int) 90) then
      some 2
    else
      if (leI 48 (c1.toNat : Int)) && (leI (c1.toNat : Int) 57) then
        some 3
      else
        if eqI (c1.toNat : Int) 95 then
          some 4
        else
          if eqI (c1.toNat : Int) 46 then
            some 5
          else
            some 0
def M.ident_name_l1 (l16 : (List UInt8)) : Nat → Nat → Option ((Bool) ⊕ (Unit))
  | 0, _ => none
  | k25 + 1, i20 =>
    if ltI ((i20 : Nat) : Int) (l16.length : Int) then
      (l16[i20]?).bind fun x29 =>
      (M.ident_of x29).bind fun v31 =>
      if (eqI v31 0) || (eqI v31 5) then
        some (.inl false)
      else
        M.ident_name_l1 l16 k25 (i20 + 1)
    else
      some (.inr ())
def M.ident_name (fuel : Nat) (s1 : (List UInt8)) (first2 : Int) : Option (Bool) :=
  (if eqS s1 ([] : List UInt8) then
    some true
  else
    if ltI 24 (s1.length : Int) then
      some true
    else
      (s1[0]?).bind fun c9 =>
      (M.ident_of c9).bind fun v11 =>
      some (!(eqI v11 first2)) : Option Bool).bind fun b13 =>
  if b13 then
    some false
  else
    (bytesC s1).bind fun l16 =>
    (M.ident_name_l1 l16 fuel 0).bind fun o => Sum.elim some (fun o21 =>
      some true) o
def M.ident_IsUpper (fuel : Nat) (s1 : (List UInt8)) : Option (Bool) :=
  (M.ident_name fuel s1 2).bind fun v2 =>
  some v2
def M.explain_valid (fuel : Nat) (s1 : Api.Step) : Option (Bool) :=
  ((M.ident_IsUpper fuel s1.Unit).bind fun v2 =>
  if !v2 then
    some true
  else
    if ltI s1.Reason.Op 0 then
      some true
    else
      if ltI 4 s1.Reason.Op then
        some true
      else
        if ltI s1.Code 0 then
          some true
        else
          some (ltI 30 s1.Code) : Option Bool).bind fun b16 =>
  if b16 then
    some false
  else
    if eqI s1.Reason.Op 4 then
      (M.ident_IsUpper fuel s1.Reason.Unit).bind fun v21 =>
      some v21
    else
      some (eqS s1.Reason.Unit ([] : List UInt8))
def M.explain_reason (r1 : Api.Reason) : Option ((List UInt8)) :=
  if eqI r1.Op 1 then
    some [110, 101, 118, 101, 114, 32, 98, 117, 105, 108, 116]
  else
    if eqI r1.Op 2 then
      some [110, 101, 119, 32, 115, 111, 117, 114, 99, 101]
    else
      if eqI r1.Op 3 then
        some [111, 116, 104, 101, 114, 32, 105, 109, 112, 111, 114, 116, 115]
      else
        if eqI r1.Op 4 then
          (cat [116, 104, 101, 32, 105, 110, 116, 101, 114, 102, 97, 99, 101, 32, 111, 102, 32] r1.Unit).bind fun s13 =>
          (cat s13 [32, 104, 97, 115, 32, 99, 104, 97, 110, 103, 101, 100]).bind fun s17 =>
          some s17
        else
          some [110, 111, 116, 104, 105, 110, 103, 32, 104, 97, 115, 32, 99, 104, 97, 110, 103, 101, 100]
def M.explain_either (is1 : Bool) (yes2 : (List UInt8)) (no3 : (List UInt8)) : Option ((List UInt8)) :=
  if is1 then
    some yes2
  else
    some no3
def M.explain_Error (e1 : Int) : Option ((List UInt8)) :=
  if eqI e1 0 then
    some [110, 111, 32, 101, 114, 114, 111, 114]
  else
    if eqI e1 1 then
      some [97, 110, 32, 97, 114, 103, 117, 109, 101, 110, 116, 32, 105, 115, 32, 110, 111, 116, 32, 118, 97, 108, 105, 100]
    else
      if eqI e1 2 then
        some [97, 32, 110, 117, 109, 98, 101, 114, 32, 105, 115, 32, 111, 117, 116, 32, 111, 102, 32, 114, 97, 110, 103, 101]
      else
        if eqI e1 3 then
          some [97, 32, 116, 101, 120, 116, 32, 105, 115, 32, 109, 97, 108, 102, 111, 114, 109, 101, 100]
        else
          if eqI e1 4 then
            some [97, 32, 116, 101, 120, 116, 32, 101, 110, 100, 115, 32, 116, 111, 111, 32, 101, 97, 114, 108, 121]
          else
            if eqI e1 5 then
              some [116, 111, 111, 32, 109, 97, 110, 121, 44, 32, 111, 114, 32, 116, 111, 111, 32, 108, 111, 110, 103]
            else
              if eqI e1 6 then
                some [97, 32, 114, 101, 115, 117, 108, 116, 32, 101, 120, 99, 101, 101, 100, 115, 32, 105, 116, 115, 32, 108, 105, 109, 105, 116]
              else
                if eqI e1 7 then
                  some [110, 111, 116, 32, 112, 111, 115, 115, 105, 98, 108, 101, 32, 105, 110, 32, 116, 104, 105, 115, 32, 115, 116, 97, 116, 101]
                else
                  if eqI e1 8 then
                    some [116, 104, 101, 114, 101, 32, 105, 115, 32, 110, 111, 110, 101]
                  else
                    if eqI e1 9 then
                      some [116, 104, 101, 32, 115, 97, 109, 101, 32, 110, 97, 109, 101, 32, 116, 119, 105, 99, 101]
                    else
                      if eqI e1 10 then
                        some [97, 110, 32, 117, 110, 107, 110, 111, 119, 110, 32, 110, 97, 109, 101]
                      else
                        if eqI e1 11 then
                          some [97, 32, 99, 111, 110, 115, 116, 114, 117, 99, 116, 111, 114, 32, 111, 102, 32, 97, 32, 119, 114, 111, 110, 103, 32, 107, 105, 110, 100]
                        else
                          if eqI e1 12 then
                            some [97, 32, 119, 114, 111, 110, 103, 32, 116, 121, 112, 101]
                          else
                            if eqI e1 13 then
                              some [97, 32, 116, 121, 112, 101, 32, 116, 104, 97, 116, 32, 119, 111, 117, 108, 100, 32, 99, 111, 110, 116, 97, 105, 110, 32, 105, 116, 115, 101, 108, 102]
                            else
                              if eqI e1 14 then
                                some [97, 32, 109, 97, 116, 99, 104, 32, 116, 104, 97, 116, 32, 105, 115, 32, 110, 111, 116, 32, 101, 120, 104, 97, 117, 115, 116, 105, 118, 101]
                              else
                                if eqI e1 15 then
                                  some [97, 32, 114, 117, 108, 101, 32, 116, 104, 97, 116, 32, 105, 115, 32, 110, 101, 118, 101, 114, 32, 99, 104, 111, 115, 101, 110]
                                else
                                  if eqI e1 16 then
                                    some [97, 110, 32, 97, 98, 115, 116, 114, 97, 99, 116, 32, 116, 121, 112, 101, 32, 119, 111, 117, 108, 100, 32, 108, 101, 97, 118, 101, 32, 105, 116, 115, 32, 115, 99, 111, 112, 101]
                                  else
                                    if eqI e1 17 then
                                      some [97, 32, 99, 111, 109, 112, 111, 110, 101, 110, 116, 32, 105, 115, 32, 109, 105, 115, 115, 105, 110, 103]
                                    else
                                      if eqI e1 18 then
                                        some [97, 110, 32, 97, 98, 115, 116, 114, 97, 99, 116, 32, 116, 121, 112, 101, 32, 104, 97, 115, 32, 110, 111, 32, 114, 111, 111, 116]
                                      else
                                        if eqI e1 19 then
                                          some [97, 32, 103, 101, 110, 101, 114, 97, 116, 105, 118, 101, 32, 109, 111, 100, 117, 108, 101, 32, 105, 110, 32, 97, 110, 32, 97, 112, 112, 108, 105, 99, 97, 116, 105, 118, 101, 32, 102, 117, 110, 99, 116, 111, 114]
                                        else
                                          if eqI e1 20 then
                                            some [97, 32, 116, 121, 112, 101, 32, 116, 104, 97, 116, 32, 99, 97, 110, 110, 111, 116, 32, 98, 101, 32, 114, 101, 102, 105, 110, 101, 100]
                                          else
                                            if eqI e1 21 then
                                              some [117, 110, 105, 116, 115, 32, 116, 104, 97, 116, 32, 105, 109, 112, 111, 114, 116, 32, 101, 97, 99, 104, 32, 111, 116, 104, 101, 114]
                                            else
                                              if eqI e1 22 then
                                                some [109, 111, 114, 101, 32, 115, 116, 101, 112, 115, 32, 116, 104, 97, 110, 32, 112, 101, 114, 109, 105, 116, 116, 101, 100]
                                              else
                                                if eqI e1 23 then
                                                  some [97, 32, 116, 101, 114, 109, 32, 116, 104, 97, 116, 32, 103, 111, 101, 115, 32, 119, 114, 111, 110, 103]
                                                else
                                                  if eqI e1 24 then
                                                    some [98, 121, 116, 101, 32, 99, 111, 100, 101, 32, 116, 104, 97, 116, 32, 105, 115, 32, 110, 111, 116, 32, 97, 99, 99, 101, 112, 116, 101, 100]
                                                  else
                                                    if eqI e1 25 then
                                                      some [116, 104, 101, 32, 104, 101, 97, 112, 32, 105, 115, 32, 116, 111, 111, 32, 115, 109, 97, 108, 108]
                                                    else
                                                      if eqI e1 26 then
                                                        some [97, 32, 115, 105, 103, 110, 97, 116, 117, 114, 101, 32, 116, 104, 97, 116, 32, 105, 115, 32, 110, 111, 116, 32, 102, 105, 114, 115, 116, 45, 111, 114, 100, 101, 114]
                                                      else
                                                        if eqI e1 27 then
                                                          some [109, 111, 114, 101, 32, 115, 116, 97, 116, 101, 115, 32, 116, 104, 97, 110, 32, 112, 101, 114, 109, 105, 116, 116, 101, 100]
                                                        else
                                                          if eqI e1 28 then
                                                            some [116, 119, 111, 32, 115, 116, 114, 117, 99, 116, 117, 114, 101, 115, 32, 100, 105, 102, 102, 101, 114]
                                                          else
                                                            if eqI e1 29 then
                                                              some [97, 32, 99, 104, 101, 99, 107, 32, 115, 117, 109, 32, 105, 115, 32, 119, 114, 111, 110, 103]
                                                            else
                                                              if eqI e1 30 then
                                                                some [97, 32, 99, 114, 97, 115, 104]
                                                              else
                                                                some [117, 110, 107, 110, 111, 119, 110, 32, 101, 114, 114, 111, 114]
def M.strings_Join (l : List (List UInt8)) (s : List UInt8) : Option (List UInt8) := if l.length ≤ 140737488355328 ∧ (Lib.join l s).length ≤ 140737488355328 then some (Lib.join l s) else none
def M.explain_Step (fuel : Nat) (s1 : Api.Step) : Option ((List UInt8) × Int) :=
  (M.explain_valid fuel s1).bind fun v2 =>
  if !v2 then
    some (([] : List UInt8), 1)
  else
    (M.explain_reason s1.Reason).bind fun v7 =>
    (M.explain_either s1.Compiled [99, 111, 109, 112, 105, 108, 101, 100] [110, 111, 116, 32, 99, 111, 109, 112, 105, 108, 101, 100]).bind fun v9 =>
    (M.explain_either s1.Same [115, 97, 109, 101, 32, 105, 110, 116, 101, 114, 102, 97, 99, 101] [111, 116, 104, 101, 114, 32, 105, 110, 116, 101, 114, 102, 97, 99, 101]).bind fun v11 =>
    (M.explain_Error s1.Code).bind fun v13 =>
    (cat s1.Unit [58, 32]).bind fun s15 =>
    (M.strings_Join [v7, v9, v11, v13] [59, 32]).bind fun v19 =>
    (cat s15 v19).bind fun s21 =>
    some (s21, 0)
def M.strings_Cut (s t : List UInt8) : Option (List UInt8 × List UInt8 × Bool) := if s.length < 4294967281 then some (Lib.cut s t) else none
def M.strings_Split (s t : List UInt8) : Option (List (List UInt8)) := if s.length < 4294967281 ∧ 1 ≤ t.length then some (Lib.split s t) else none
def M.stringslite_HasPrefix (s1 : (List UInt8)) (prefix2 : (List UInt8)) : Option (Bool) :=
  (if leI (prefix2.length : Int) (s1.length : Int) then
    (subC s1 0 (prefix2.length : Int)).bind fun s7 =>
    some (eqS s7 prefix2)
  else
    some false : Option Bool).bind fun b14 =>
  some b14
def M.stringslite_CutPrefix (s1 : (List UInt8)) (prefix2 : (List UInt8)) : Option ((List UInt8) × Bool) :=
  (M.stringslite_HasPrefix s1 prefix2).bind fun v3 =>
  if !v3 then
    some (s1, false)
  else
    (subC s1 (prefix2.length : Int) (s1.length : Int)).bind fun s8 =>
    some (s8, true)
def M.strings_CutPrefix (s1 : (List UInt8)) (prefix2 : (List UInt8)) : Option ((List UInt8) × Bool) :=
  (M.stringslite_CutPrefix s1 prefix2).bind fun v3 =>
  some (v3.1, v3.2)
def M.stringslite_HasSuffix (s1 : (List UInt8)) (suffix2 : (List UInt8)) : Option (Bool) :=
  (if leI (suffix2.length : Int) (s1.length : Int) then
    (subC s1 ((s1.length : Int) - (suffix2.length : Int)) (s1.length : Int)).bind fun s8 =>
    some (eqS s8 suffix2)
  else
    some false : Option Bool).bind fun b15 =>
  some b15
def M.stringslite_CutSuffix (s1 : (List UInt8)) (suffix2 : (List UInt8)) : Option ((List UInt8) × Bool) :=
  (M.stringslite_HasSuffix s1 suffix2).bind fun v3 =>
  if !v3 then
    some (s1, false)
  else
    (chk .i64 ((s1.length : Int) - (suffix2.length : Int))).bind fun n8 =>
    (subC s1 0 n8).bind fun s13 =>
    some (s13, true)
def M.strings_CutSuffix (s1 : (List UInt8)) (suffix2 : (List UInt8)) : Option ((List UInt8) × Bool) :=
  (M.stringslite_CutSuffix s1 suffix2).bind fun v3 =>
  some (v3.1, v3.2)
def M.explain_parsed (s1 : (List UInt8)) : Option (Api.Reason) :=
  if eqS s1 [110, 101, 118, 101, 114, 32, 98, 117, 105, 108, 116] then
    some (Api.Reason.mk 1 ([] : List UInt8))
  else
    if eqS s1 [110, 101, 119, 32, 115, 111, 117, 114, 99, 101] then
      some (Api.Reason.mk 2 ([] : List UInt8))
    else
      if eqS s1 [111, 116, 104, 101, 114, 32, 105, 109, 112, 111, 114, 116, 115] then
        some (Api.Reason.mk 3 ([] : List UInt8))
      else
        (M.strings_CutPrefix s1 [116, 104, 101, 32, 105, 110, 116, 101, 114, 102, 97, 99, 101, 32, 111, 102, 32]).bind fun v5 =>
        if v5.2 then
          (M.strings_CutSuffix v5.1 [32, 104, 97, 115, 32, 99, 104, 97, 110, 103, 101, 100]).bind fun v8 =>
          some (Api.Reason.mk 4 v8.1)
        else
          some (Api.Reason.mk 0 ([] : List UInt8))
def M.explain_Parse_l1 (v9 : (List (List UInt8))) : Nat → Nat → Nat → Option (Int)
  | 0, _, _ => none
  | k29 + 1, Code24, e25 =>
    if leI ((e25 : Nat) : Int) 30 then
      (M.explain_Error ((e25 : Nat) : Int)).bind fun v32 =>
      (v9[3]?).bind fun x34 =>
      if eqS v32 x34 then
        M.explain_Parse_l1 v9 k29 e25 (e25 + 1)
      else
        M.explain_Parse_l1 v9 k29 Code24 (e25 + 1)
    else
      some ((Code24 : Nat) : Int)
def M.explain_Parse (fuel : Nat) (s1 : (List UInt8)) : Option (Api.Step × Int) :=
  if ltI 16384 (s1.length : Int) then
    some ((Api.Step.mk ([] : List UInt8) (Api.Reason.mk 0 ([] : List UInt8)) false 0 false), 5)
  else
    (M.strings_Cut s1 [58, 32]).bind fun v7 =>
    (M.strings_Split v7.2.1 [59, 32]).bind fun v9 =>
    if !(eqI (v9.length : Int) 4) then
      some ((Api.Step.mk ([] : List UInt8) (Api.Reason.mk 0 ([] : List UInt8)) false 0 false), 3)
    else
      (v9[0]?).bind fun x16 =>
      (M.explain_parsed x16).bind fun v18 =>
      (v9[1]?).bind fun x20 =>
      (v9[2]?).bind fun x22 =>
      (M.explain_Parse_l1 v9 fuel 0 0).bind fun o26 =>
      (M.explain_Step fuel (Api.Step.mk v7.1 v18 (eqS x20 [99, 111, 109, 112, 105, 108, 101, 100]) o26 (eqS x22 [115, 97, 109, 101, 32, 105, 110, 116, 101, 114, 102, 97, 99, 101]))).bind fun v42 =>
      if (!(eqI v42.2 0)) || (!(eqS v42.1 s1)) then
        some ((Api.Step.mk ([] : List UInt8) (Api.Reason.mk 0 ([] : List UInt8)) false 0 false), 3)
      else
        some ((Api.Step.mk v7.1 v18 (eqS x20 [99, 111, 109, 112, 105, 108, 101, 100]) o26 (eqS x22 [115, 97, 109, 101, 32, 105, 110, 116, 101, 114, 102, 97, 99, 101])), 0)
def M.law55_awake (fuel : Nat) : Option (Bool) :=
  (M.explain_Step fuel (Api.Step.mk [65] (Api.Reason.mk 4 [66]) true 0 true)).bind fun v1 =>
  (M.explain_Parse fuel v1.1).bind fun v3 =>
  some ((eqS v1.1 [65, 58, 32, 116, 104, 101, 32, 105, 110, 116, 101, 114, 102, 97, 99, 101, 32, 111, 102, 32, 66, 32, 104, 97, 115, 32, 99, 104, 97, 110, 103, 101, 100, 59, 32, 99, 111, 109, 112, 105, 108, 101, 100, 59, 32, 115, 97, 109, 101, 32, 105, 110, 116, 101, 114, 102, 97, 99, 101, 59, 32, 110, 111, 32, 101, 114, 114, 111, 114]) && ((eqI v1.2 0) && (((eqS v3.1.Unit [65]) && (((eqI v3.1.Reason.Op 4) && (eqS v3.1.Reason.Unit [66])) && ((eqB v3.1.Compiled true) && ((eqI v3.1.Code 0) && (eqB v3.1.Same true))))) && (eqI v3.2 0))))
def M.ref55_split_l1 (s1 : (List UInt8)) (mark2 : (List UInt8)) : Nat → Int → Option (((List UInt8) × (List UInt8) × Bool) ⊕ (Unit))
  | 0, _ => none
  | k9 + 1, i3 =>
    (chk .i64 (i3 + (mark2.length : Int))).bind fun n10 =>
    if leI n10 (s1.length : Int) then
      (subC s1 i3 n10).bind fun s19 =>
      if eqS s19 mark2 then
        (subC s1 0 i3).bind fun s24 =>
        (subC s1 n10 (s1.length : Int)).bind fun s29 =>
        some (.inl (s24, s29, true))
      else
        (chk .i64 (i3 + 1)).bind fun n33 =>
        M.ref55_split_l1 s1 mark2 k9 n33
    else
      some (.inr ())
def M.ref55_split (fuel : Nat) (s1 : (List UInt8)) (mark2 : (List UInt8)) : Option ((List UInt8) × (List UInt8) × Bool) :=
  (M.ref55_split_l1 s1 mark2 fuel 0).bind fun o => Sum.elim some (fun o4 =>
    some (s1, ([] : List UInt8), false)) o
def M.ref01_Small (c1 : UInt8) : Option (Bool) :=
  some ((leI 97 (c1.toNat : Int)) && (leI (c1.toNat : Int) 122))
def M.ref01_Capital (c1 : UInt8) : Option (Bool) :=
  some ((leI 65 (c1.toNat : Int)) && (leI (c1.toNat : Int) 90))
def M.ref01_Digit (c1 : UInt8) : Option (Bool) :=
  some ((leI 48 (c1.toNat : Int)) && (leI (c1.toNat : Int) 57))
def M.ref01_Inner (c1 : UInt8) : Option (Bool) :=
  ((M.ref01_Small c1).bind fun v2 =>
  if v2 then
    some true
  else
    (M.ref01_Capital c1).bind fun v5 =>
    if v5 then
      some true
    else
      (M.ref01_Digit c1).bind fun v8 =>
      if v8 then
        some true
      else
        some (eqI (c1.toNat : Int) 95) : Option Bool).bind fun b11 =>
  some b11
def M.ref01_inner_l1 (s1 : (List UInt8)) : Nat → Nat → Option ((Bool) ⊕ (Unit))
  | 0, _ => none
  | k7 + 1, i2 =>
    if ltI ((i2 : Nat) : Int) (s1.length : Int) then
      (s1[i2]?).bind fun c11 =>
      (M.ref01_Inner c11).bind fun v13 =>
      if !v13 then
        some (.inl false)
      else
        M.ref01_inner_l1 s1 k7 (i2 + 1)
    else
      some (.inr ())
def M.ref01_inner (fuel : Nat) (s1 : (List UInt8)) : Option (Bool) :=
  (M.ref01_inner_l1 s1 fuel 0).bind fun o => Sum.elim some (fun o3 =>
    some true) o
def M.ref01_Word (fuel : Nat) (s1 : (List UInt8)) : Option (Bool) :=
  (if leI 1 (s1.length : Int) then
    if leI (s1.length : Int) 24 then
      (M.ref01_inner fuel s1).bind fun v7 =>
      some v7
    else
      some false
  else
    some false : Option Bool).bind fun b12 =>
  some b12
def M.ref01_IsUpper (fuel : Nat) (s1 : (List UInt8)) : Option (Bool) :=
  ((M.ref01_Word fuel s1).bind fun v2 =>
  if v2 then
    (s1[0]?).bind fun c5 =>
    (M.ref01_Capital c5).bind fun v7 =>
    some v7
  else
    some false : Option Bool).bind fun b9 =>
  some b9
def M.ref55_Valid (fuel : Nat) (s1 : Api.Step) : Option (Bool) :=
  ((M.ref01_IsUpper fuel s1.Unit).bind fun v2 =>
  if !v2 then
    some true
  else
    if ltI s1.Reason.Op 0 then
      some true
    else
      if ltI 4 s1.Reason.Op then
        some true
      else
        if ltI s1.Code 0 then
          some true
        else
          some (ltI 30 s1.Code) : Option Bool).bind fun b16 =>
  if b16 then
    some false
  else
    if eqI s1.Reason.Op 4 then
      (M.ref01_IsUpper fuel s1.Reason.Unit).bind fun v21 =>
      some v21
    else
      some (eqS s1.Reason.Unit ([] : List UInt8))
def M.ref55_reason (r1 : Api.Reason) : Option ((List UInt8)) :=
  if eqI r1.Op 0 then
    some [110, 111, 116, 104, 105, 110, 103, 32, 104, 97, 115, 32, 99, 104, 97, 110, 103, 101, 100]
  else
    if eqI r1.Op 1 then
      some [110, 101, 118, 101, 114, 32, 98, 117, 105, 108, 116]
    else
      if eqI r1.Op 2 then
        some [110, 101, 119, 32, 115, 111, 117, 114, 99, 101]
      else
        if eqI r1.Op 3 then
          some [111, 116, 104, 101, 114, 32, 105, 109, 112, 111, 114, 116, 115]
        else
          (cat [116, 104, 101, 32, 105, 110, 116, 101, 114, 102, 97, 99, 101, 32, 111, 102, 32] r1.Unit).bind fun s14 =>
          (cat s14 [32, 104, 97, 115, 32, 99, 104, 97, 110, 103, 101, 100]).bind fun s18 =>
          some s18
def M.ref55_Errors : Option ((List (List UInt8))) :=
  (some [[110, 111, 32, 101, 114, 114, 111, 114], [97, 110, 32, 97, 114, 103, 117, 109, 101, 110, 116, 32, 105, 115, 32, 110, 111, 116, 32, 118, 97, 108, 105, 100], [97, 32, 110, 117, 109, 98, 101, 114, 32, 105, 115, 32, 111, 117, 116, 32, 111, 102, 32, 114, 97, 110, 103, 101], [97, 32, 116, 101, 120, 116, 32, 105, 115, 32, 109, 97, 108, 102, 111, 114, 109, 101, 100], [97, 32, 116, 101, 120, 116, 32, 101, 110, 100, 115, 32, 116, 111, 111, 32, 101, 97, 114, 108, 121], [116, 111, 111, 32, 109, 97, 110, 121, 44, 32, 111, 114, 32, 116, 111, 111, 32, 108, 111, 110, 103], [97, 32, 114, 101, 115, 117, 108, 116, 32, 101, 120, 99, 101, 101, 100, 115, 32, 105, 116, 115, 32, 108, 105, 109, 105, 116], [110, 111, 116, 32, 112, 111, 115, 115, 105, 98, 108, 101, 32, 105, 110, 32, 116, 104, 105, 115, 32, 115, 116, 97, 116, 101], [116, 104, 101, 114, 101, 32, 105, 115, 32, 110, 111, 110, 101], [116, 104, 101, 32, 115, 97, 109, 101, 32, 110, 97, 109, 101, 32, 116, 119, 105, 99, 101], [97, 110, 32, 117, 110, 107, 110, 111, 119, 110, 32, 110, 97, 109, 101], [97, 32, 99, 111, 110, 115, 116, 114, 117, 99, 116, 111, 114, 32, 111, 102, 32, 97, 32, 119, 114, 111, 110, 103, 32, 107, 105, 110, 100], [97, 32, 119, 114, 111, 110, 103, 32, 116, 121, 112, 101], [97, 32, 116, 121, 112, 101, 32, 116, 104, 97, 116, 32, 119, 111, 117, 108, 100, 32, 99, 111, 110, 116, 97, 105, 110, 32, 105, 116, 115, 101, 108, 102], [97, 32, 109, 97, 116, 99, 104, 32, 116, 104, 97, 116, 32, 105, 115, 32, 110, 111, 116, 32, 101, 120, 104, 97, 117, 115, 116, 105, 118, 101], [97, 32, 114, 117, 108, 101, 32, 116, 104, 97, 116, 32, 105, 115, 32, 110, 101, 118, 101, 114, 32, 99, 104, 111, 115, 101, 110], [97, 110, 32, 97, 98, 115, 116, 114, 97, 99, 116, 32, 116, 121, 112, 101, 32, 119, 111, 117, 108, 100, 32, 108, 101, 97, 118, 101, 32, 105, 116, 115, 32, 115, 99, 111, 112, 101], [97, 32, 99, 111, 109, 112, 111, 110, 101, 110, 116, 32, 105, 115, 32, 109, 105, 115, 115, 105, 110, 103], [97, 110, 32, 97, 98, 115, 116, 114, 97, 99, 116, 32, 116, 121, 112, 101, 32, 104, 97, 115, 32, 110, 111, 32, 114, 111, 111, 116], [97, 32, 103, 101, 110, 101, 114, 97, 116, 105, 118, 101, 32, 109, 111, 100, 117, 108, 101, 32, 105, 110, 32, 97, 110, 32, 97, 112, 112, 108, 105, 99, 97, 116, 105, 118, 101, 32, 102, 117, 110, 99, 116, 111, 114], [97, 32, 116, 121, 112, 101, 32, 116, 104, 97, 116, 32, 99, 97, 110, 110, 111, 116, 32, 98, 101, 32, 114, 101, 102, 105, 110, 101, 100], [117, 110, 105, 116, 115, 32, 116, 104, 97, 116, 32, 105, 109, 112, 111, 114, 116, 32, 101, 97, 99, 104, 32, 111, 116, 104, 101, 114], [109, 111, 114, 101, 32, 115, 116, 101, 112, 115, 32, 116, 104, 97, 110, 32, 112, 101, 114, 109, 105, 116, 116, 101, 100], [97, 32, 116, 101, 114, 109, 32, 116, 104, 97, 116, 32, 103, 111, 101, 115, 32, 119, 114, 111, 110, 103], [98, 121, 116, 101, 32, 99, 111, 100, 101, 32, 116, 104, 97, 116, 32, 105, 115, 32, 110, 111, 116, 32, 97, 99, 99, 101, 112, 116, 101, 100], [116, 104, 101, 32, 104, 101, 97, 112, 32, 105, 115, 32, 116, 111, 111, 32, 115, 109, 97, 108, 108], [97, 32, 115, 105, 103, 110, 97, 116, 117, 114, 101, 32, 116, 104, 97, 116, 32, 105, 115, 32, 110, 111, 116, 32, 102, 105, 114, 115, 116, 45, 111, 114, 100, 101, 114], [109, 111, 114, 101, 32, 115, 116, 97, 116, 101, 115, 32, 116, 104, 97, 110, 32, 112, 101, 114, 109, 105, 116, 116, 101, 100], [116, 119, 111, 32, 115, 116, 114, 117, 99, 116, 117, 114, 101, 115, 32, 100, 105, 102, 102, 101, 114], [97, 32, 99, 104, 101, 99, 107, 32, 115, 117, 109, 32, 105, 115, 32, 119, 114, 111, 110, 103], [97, 32, 99, 114, 97, 115, 104]]).bind fun l1 =>
  some l1
def M.ref55_Error (e1 : Int) : Option ((List UInt8)) :=
  (M.ref55_Errors).bind fun v2 =>
  if (ltI e1 0) || (leI (v2.length : Int) e1) then
    some [117, 110, 107, 110, 111, 119, 110, 32, 101, 114, 114, 111, 114]
  else
    (idx v2 e1).bind fun x13 =>
    some x13
def M.ref55_Text (s1 : Api.Step) : Option ((List UInt8)) :=
  (cat s1.Unit [58, 32]).bind fun s2 =>
  (M.ref55_reason s1.Reason).bind fun v6 =>
  (cat s2 v6).bind fun s8 =>
  if s1.Compiled then
    (cat s8 [59, 32, 99, 111, 109, 112, 105, 108, 101, 100]).bind fun s13 =>
    if s1.Same then
      (cat s13 [59, 32, 115, 97, 109, 101, 32, 105, 110, 116, 101, 114, 102, 97, 99, 101]).bind fun s18 =>
      (cat s18 [59, 32]).bind fun s22 =>
      (M.ref55_Error s1.Code).bind fun v26 =>
      (cat s22 v26).bind fun s28 =>
      some s28
    else
      (cat s13 [59, 32, 111, 116, 104, 101, 114, 32, 105, 110, 116, 101, 114, 102, 97, 99, 101]).bind fun s33 =>
      (cat s33 [59, 32]).bind fun s37 =>
      (M.ref55_Error s1.Code).bind fun v41 =>
      (cat s37 v41).bind fun s43 =>
      some s43
  else
    (cat s8 [59, 32, 110, 111, 116, 32, 99, 111, 109, 112, 105, 108, 101, 100]).bind fun s48 =>
    if s1.Same then
      (cat s48 [59, 32, 115, 97, 109, 101, 32, 105, 110, 116, 101, 114, 102, 97, 99, 101]).bind fun s53 =>
      (cat s53 [59, 32]).bind fun s57 =>
      (M.ref55_Error s1.Code).bind fun v61 =>
      (cat s57 v61).bind fun s63 =>
      some s63
    else
      (cat s48 [59, 32, 111, 116, 104, 101, 114, 32, 105, 110, 116, 101, 114, 102, 97, 99, 101]).bind fun s68 =>
      (cat s68 [59, 32]).bind fun s72 =>
      (M.ref55_Error s1.Code).bind fun v76 =>
      (cat s72 v76).bind fun s78 =>
      some s78
def M.ref55_Parse_l3 (fuel : Nat) (s1 : (List UInt8)) (v7 : (List UInt8) × (List UInt8) × Bool) (v18 : (List UInt8) × (List UInt8) × Bool) (op20 : Nat) (bits28 : Nat) : Nat → Nat → Option ((Api.Step × Int) ⊕ (Unit))
  | 0, _ => none
  | k41 + 1, code36 =>
    if leI ((code36 : Nat) : Int) 30 then
      if eqI ((op20 : Nat) : Int) 4 then
        ((M.ref55_Valid fuel (Api.Step.mk v7.1 (Api.Reason.mk ((op20 : Nat) : Int) v18.1) (eqI (andI .i64 ((bits28 : Nat) : Int) 1) 1) ((code36 : Nat) : Int) (eqI (andI .i64 ((bits28 : Nat) : Int) 2) 2))).bind fun v46 =>
        if v46 then
          (M.ref55_Text (Api.Step.mk v7.1 (Api.Reason.mk ((op20 : Nat) : Int) v18.1) (eqI (andI .i64 ((bits28 : Nat) : Int) 1) 1) ((code36 : Nat) : Int) (eqI (andI .i64 ((bits28 : Nat) : Int) 2) 2))).bind fun v49 =>
          some (eqS v49 s1)
        else
          some false : Option Bool).bind fun b51 =>
        if b51 then
          some (.inl ((Api.Step.mk v7.1 (Api.Reason.mk ((op20 : Nat) : Int) v18.1) (eqI (andI .i64 ((bits28 : Nat) : Int) 1) 1) ((code36 : Nat) : Int) (eqI (andI .i64 ((bits28 : Nat) : Int) 2) 2)), 0))
        else
          M.ref55_Parse_l3 fuel s1 v7 v18 op20 bits28 k41 (code36 + 1)
      else
        ((M.ref55_Valid fuel (Api.Step.mk v7.1 (Api.Reason.mk ((op20 : Nat) : Int) ([] : List UInt8)) (eqI (andI .i64 ((bits28 : Nat) : Int) 1) 1) ((code36 : Nat) : Int) (eqI (andI .i64 ((bits28 : Nat) : Int) 2) 2))).bind fun v59 =>
        if v59 then
          (M.ref55_Text (Api.Step.mk v7.1 (Api.Reason.mk ((op20 : Nat) : Int) ([] : List UInt8)) (eqI (andI .i64 ((bits28 : Nat) : Int) 1) 1) ((code36 : Nat) : Int) (eqI (andI .i64 ((bits28 : Nat) : Int) 2) 2))).bind fun v62 =>
          some (eqS v62 s1)
        else
          some false : Option Bool).bind fun b64 =>
        if b64 then
          some (.inl ((Api.Step.mk v7.1 (Api.Reason.mk ((op20 : Nat) : Int) ([] : List UInt8)) (eqI (andI .i64 ((bits28 : Nat) : Int) 1) 1) ((code36 : Nat) : Int) (eqI (andI .i64 ((bits28 : Nat) : Int) 2) 2)), 0))
        else
          M.ref55_Parse_l3 fuel s1 v7 v18 op20 bits28 k41 (code36 + 1)
    else
      some (.inr ())
def M.ref55_Parse_l2 (fuel : Nat) (s1 : (List UInt8)) (v7 : (List UInt8) × (List UInt8) × Bool) (v18 : (List UInt8) × (List UInt8) × Bool) (op20 : Nat) : Nat → Nat → Option ((Api.Step × Int) ⊕ (Unit))
  | 0, _ => none
  | k33 + 1, bits28 =>
    if ltI ((bits28 : Nat) : Int) 4 then
      (M.ref55_Parse_l3 fuel s1 v7 v18 op20 bits28 fuel 0).bind fun o => Sum.elim (fun r => some (.inl r)) (fun o37 =>
        M.ref55_Parse_l2 fuel s1 v7 v18 op20 k33 (bits28 + 1)) o
    else
      some (.inr ())
def M.ref55_Parse_l1 (fuel : Nat) (s1 : (List UInt8)) (v7 : (List UInt8) × (List UInt8) × Bool) (v18 : (List UInt8) × (List UInt8) × Bool) : Nat → Nat → Option ((Api.Step × Int) ⊕ (Unit))
  | 0, _ => none
  | k25 + 1, op20 =>
    if leI ((op20 : Nat) : Int) 4 then
      (M.ref55_Parse_l2 fuel s1 v7 v18 op20 fuel 0).bind fun o => Sum.elim (fun r => some (.inl r)) (fun o29 =>
        M.ref55_Parse_l1 fuel s1 v7 v18 k25 (op20 + 1)) o
    else
      some (.inr ())
def M.ref55_Parse_l6 (fuel : Nat) (s1 : (List UInt8)) (v7 : (List UInt8) × (List UInt8) × Bool) (op80 : Nat) (bits88 : Nat) : Nat → Nat → Option ((Api.Step × Int) ⊕ (Unit))
  | 0, _ => none
  | k101 + 1, code96 =>
    if leI ((code96 : Nat) : Int) 30 then
      if eqI ((op80 : Nat) : Int) 4 then
        ((M.ref55_Valid fuel (Api.Step.mk v7.1 (Api.Reason.mk ((op80 : Nat) : Int) ([] : List UInt8)) (eqI (andI .i64 ((bits88 : Nat) : Int) 1) 1) ((code96 : Nat) : Int) (eqI (andI .i64 ((bits88 : Nat) : Int) 2) 2))).bind fun v106 =>
        if v106 then
          (M.ref55_Text (Api.Step.mk v7.1 (Api.Reason.mk ((op80 : Nat) : Int) ([] : List UInt8)) (eqI (andI .i64 ((bits88 : Nat) : Int) 1) 1) ((code96 : Nat) : Int) (eqI (andI .i64 ((bits88 : Nat) : Int) 2) 2))).bind fun v109 =>
          some (eqS v109 s1)
        else
          some false : Option Bool).bind fun b111 =>
        if b111 then
          some (.inl ((Api.Step.mk v7.1 (Api.Reason.mk ((op80 : Nat) : Int) ([] : List UInt8)) (eqI (andI .i64 ((bits88 : Nat) : Int) 1) 1) ((code96 : Nat) : Int) (eqI (andI .i64 ((bits88 : Nat) : Int) 2) 2)), 0))
        else
          M.ref55_Parse_l6 fuel s1 v7 op80 bits88 k101 (code96 + 1)
      else
        ((M.ref55_Valid fuel (Api.Step.mk v7.1 (Api.Reason.mk ((op80 : Nat) : Int) ([] : List UInt8)) (eqI (andI .i64 ((bits88 : Nat) : Int) 1) 1) ((code96 : Nat) : Int) (eqI (andI .i64 ((bits88 : Nat) : Int) 2) 2))).bind fun v119 =>
        if v119 then
          (M.ref55_Text (Api.Step.mk v7.1 (Api.Reason.mk ((op80 : Nat) : Int) ([] : List UInt8)) (eqI (andI .i64 ((bits88 : Nat) : Int) 1) 1) ((code96 : Nat) : Int) (eqI (andI .i64 ((bits88 : Nat) : Int) 2) 2))).bind fun v122 =>
          some (eqS v122 s1)
        else
          some false : Option Bool).bind fun b124 =>
        if b124 then
          some (.inl ((Api.Step.mk v7.1 (Api.Reason.mk ((op80 : Nat) : Int) ([] : List UInt8)) (eqI (andI .i64 ((bits88 : Nat) : Int) 1) 1) ((code96 : Nat) : Int) (eqI (andI .i64 ((bits88 : Nat) : Int) 2) 2)), 0))
        else
          M.ref55_Parse_l6 fuel s1 v7 op80 bits88 k101 (code96 + 1)
    else
      some (.inr ())
def M.ref55_Parse_l5 (fuel : Nat) (s1 : (List UInt8)) (v7 : (List UInt8) × (List UInt8) × Bool) (op80 : Nat) : Nat → Nat → Option ((Api.Step × Int) ⊕ (Unit))
  | 0, _ => none
  | k93 + 1, bits88 =>
    if ltI ((bits88 : Nat) : Int) 4 then
      (M.ref55_Parse_l6 fuel s1 v7 op80 bits88 fuel 0).bind fun o => Sum.elim (fun r => some (.inl r)) (fun o97 =>
        M.ref55_Parse_l5 fuel s1 v7 op80 k93 (bits88 + 1)) o
    else
      some (.inr ())
def M.ref55_Parse_l4 (fuel : Nat) (s1 : (List UInt8)) (v7 : (List UInt8) × (List UInt8) × Bool) : Nat → Nat → Option ((Api.Step × Int) ⊕ (Unit))
  | 0, _ => none
  | k85 + 1, op80 =>
    if leI ((op80 : Nat) : Int) 4 then
      (M.ref55_Parse_l5 fuel s1 v7 op80 fuel 0).bind fun o => Sum.elim (fun r => some (.inl r)) (fun o89 =>
        M.ref55_Parse_l4 fuel s1 v7 k85 (op80 + 1)) o
    else
      some (.inr ())
def M.ref55_Parse (fuel : Nat) (s1 : (List UInt8)) : Option (Api.Step × Int) :=
  if ltI 16384 (s1.length : Int) then
    some ((Api.Step.mk ([] : List UInt8) (Api.Reason.mk 0 ([] : List UInt8)) false 0 false), 5)
  else
    (M.ref55_split fuel s1 [58, 32]).bind fun v7 =>
    if !v7.2.2 then
      some ((Api.Step.mk ([] : List UInt8) (Api.Reason.mk 0 ([] : List UInt8)) false 0 false), 3)
    else
      (M.ref55_split fuel v7.2.1 [116, 104, 101, 32, 105, 110, 116, 101, 114, 102, 97, 99, 101, 32, 111, 102, 32]).bind fun v12 =>
      if v12.2.2 && (eqS v12.1 ([] : List UInt8)) then
        (M.ref55_split fuel v12.2.1 [32, 104, 97, 115, 32, 99, 104, 97, 110, 103, 101, 100]).bind fun v18 =>
        (M.ref55_Parse_l1 fuel s1 v7 v18 fuel 0).bind fun o => Sum.elim some (fun o21 =>
          some ((Api.Step.mk ([] : List UInt8) (Api.Reason.mk 0 ([] : List UInt8)) false 0 false), 3)) o
      else
        (M.ref55_Parse_l4 fuel s1 v7 fuel 0).bind fun o => Sum.elim some (fun o81 =>
          some ((Api.Step.mk ([] : List UInt8) (Api.Reason.mk 0 ([] : List UInt8)) false 0 false), 3)) o
def M.law55_ExplainParses (fuel : Nat) (s1 : (List UInt8)) (n2 : Int) : Option (Bool) :=
  (M.law55_awake fuel).bind fun v3 =>
  if !v3 then
    some false
  else
    if if ltI 300 (s1.length : Int) then (leI (s1.length : Int) 16384) || (ltI 16394 (s1.length : Int)) else ltI 16394 (s1.length : Int) then
      some true
    else
      (M.explain_Parse fuel s1).bind fun v17 =>
      (M.ref55_Parse fuel s1).bind fun v19 =>
      (if (eqS v17.1.Unit v19.1.Unit) && (((eqI v17.1.Reason.Op v19.1.Reason.Op) && (eqS v17.1.Reason.Unit v19.1.Reason.Unit)) && ((eqB v17.1.Compiled v19.1.Compiled) && ((eqI v17.1.Code v19.1.Code) && (eqB v17.1.Same v19.1.Same)))) then
        if eqI v17.2 v19.2 then
          (M.explain_Error n2).bind fun v24 =>
          (M.ref55_Error n2).bind fun v26 =>
          some (eqS v24 v26)
        else
          some false
      else
        some false : Option Bool).bind fun b29 =>
      some b29
def M.law55_short (s1 : Api.Step) : Option (Bool) :=
  some ((leI (s1.Unit.length : Int) 60) && (leI (s1.Reason.Unit.length : Int) 60))
def M.strings_Contains (s t : List UInt8) : Option Bool := match t with
  | [c] => some (decide (0 ≤ Lib.indexByte s c))
  | _ => none
def M.law55_ExplainBack (fuel : Nat) (a1 : Api.Step) (b2 : Api.Step) : Option (Bool) :=
  (M.law55_awake fuel).bind fun v3 =>
  if !v3 then
    some false
  else
    ((M.law55_short a1).bind fun v8 =>
    if !v8 then
      some true
    else
      (M.law55_short b2).bind fun v13 =>
      some (!v13) : Option Bool).bind fun b15 =>
    if b15 then
      some true
    else
      (M.explain_Step fuel a1).bind fun v18 =>
      (M.explain_Step fuel b2).bind fun v20 =>
      if (!(eqI v18.2 0)) || (!(eqI v20.2 0)) then
        some (if eqI v18.2 0 then (eqI v20.2 0) || ((eqI v20.2 1) && (eqS v20.1 ([] : List UInt8))) else (eqI v18.2 1) && ((eqS v18.1 ([] : List UInt8)) && ((eqI v20.2 0) || ((eqI v20.2 1) && (eqS v20.1 ([] : List UInt8))))))
      else
        (M.explain_Parse fuel v18.1).bind fun v53 =>
        (if eqI v53.2 0 then
          if (eqS v53.1.Unit a1.Unit) && (((eqI v53.1.Reason.Op a1.Reason.Op) && (eqS v53.1.Reason.Unit a1.Reason.Unit)) && ((eqB v53.1.Compiled a1.Compiled) && ((eqI v53.1.Code a1.Code) && (eqB v53.1.Same a1.Same)))) then
            if eqB (eqS v18.1 v20.1) ((eqS a1.Unit b2.Unit) && (((eqI a1.Reason.Op b2.Reason.Op) && (eqS a1.Reason.Unit b2.Reason.Unit)) && ((eqB a1.Compiled b2.Compiled) && ((eqI a1.Code b2.Code) && (eqB a1.Same b2.Same))))) then
              (M.strings_Contains v18.1 [10]).bind fun v59 =>
              some (!v59)
            else
              some false
          else
            some false
        else
          some false : Option Bool).bind fun b62 =>
        some b62
def M.law55_ExplainSteps_1 (s1 : Api.Step) : Option (Bool) :=
  (M.law55_short s1).bind fun v2 =>
  some (!v2)
def M.slices_IndexFunc_api_Step_ExplainSteps_1_l1 (s1 : (List Api.Step)) : Nat → Nat → Option ((Int) ⊕ (Unit))
  | 0, _ => none
  | k7 + 1, i2 =>
    if ltI ((i2 : Nat) : Int) (s1.length : Int) then
      (s1[i2]?).bind fun x11 =>
      (M.law55_ExplainSteps_1 x11).bind fun v13 =>
      if v13 then
        some (.inl ((i2 : Nat) : Int))
      else
        M.slices_IndexFunc_api_Step_ExplainSteps_1_l1 s1 k7 (i2 + 1)
    else
      some (.inr ())
def M.slices_IndexFunc_api_Step_ExplainSteps_1 (fuel : Nat) (s1 : (List Api.Step)) : Option (Int) :=
  (M.slices_IndexFunc_api_Step_ExplainSteps_1_l1 s1 fuel 0).bind fun o => Sum.elim some (fun o3 =>
    some (-1)) o
def M.slices_ContainsFunc_api_Step_ExplainSteps_1 (fuel : Nat) (s1 : (List Api.Step)) : Option (Bool) :=
  (M.slices_IndexFunc_api_Step_ExplainSteps_1 fuel s1).bind fun v2 =>
  some (leI 0 v2)
def M.explain_Steps_1 (fuel : Nat) (s1 : Api.Step) : Option (Bool) :=
  (M.explain_valid fuel s1).bind fun v2 =>
  some (!v2)
def M.slices_IndexFunc_api_Step_Steps_1_l1 (fuel : Nat) (s1 : (List Api.Step)) : Nat → Nat → Option ((Int) ⊕ (Unit))
  | 0, _ => none
  | k7 + 1, i2 =>
    if ltI ((i2 : Nat) : Int) (s1.length : Int) then
      (s1[i2]?).bind fun x11 =>
      (M.explain_Steps_1 fuel x11).bind fun v13 =>
      if v13 then
        some (.inl ((i2 : Nat) : Int))
      else
        M.slices_IndexFunc_api_Step_Steps_1_l1 fuel s1 k7 (i2 + 1)
    else
      some (.inr ())
def M.slices_IndexFunc_api_Step_Steps_1 (fuel : Nat) (s1 : (List Api.Step)) : Option (Int) :=
  (M.slices_IndexFunc_api_Step_Steps_1_l1 fuel s1 fuel 0).bind fun o => Sum.elim some (fun o3 =>
    some (-1)) o
def M.slices_ContainsFunc_api_Step_Steps_1 (fuel : Nat) (s1 : (List Api.Step)) : Option (Bool) :=
  (M.slices_IndexFunc_api_Step_Steps_1 fuel s1).bind fun v2 =>
  some (leI 0 v2)
def M.strings_Builder_copyCheck (b : List UInt8) : Option Unit := some ()
def M.strings_Builder_WriteString (s1 : (List UInt8)) (b2 : (List UInt8)) : Option (Int × (List UInt8)) :=
  (M.strings_Builder_copyCheck b2).bind fun v3 =>
  (app 1 b2 s1).bind fun l5 =>
  some ((s1.length : Int), l5)
def M.strings_Builder_Len (b1 : (List UInt8)) : Option (Int) :=
  some (b1.length : Int)
def M.strings_Builder_String (b : List UInt8) : Option (List UInt8) := some b
def M.explain_Steps_l1 (fuel : Nat) (l1 : (List Api.Step)) : Nat → (List UInt8) → Nat → Option ((List UInt8))
  | 0, _, _ => none
  | k15 + 1, buf10, i11 =>
    if ltI ((i11 : Nat) : Int) (l1.length : Int) then
      (l1[i11]?).bind fun x18 =>
      (M.explain_Step fuel x18).bind fun v20 =>
      (cat v20.1 [10]).bind fun s22 =>
      (M.strings_Builder_WriteString s22 buf10).bind fun v26 =>
      M.explain_Steps_l1 fuel l1 k15 v26.2 (i11 + 1)
    else
      some buf10
def M.explain_Steps (fuel : Nat) (l1 : (List Api.Step)) : Option ((List UInt8) × Int) :=
  (M.slices_ContainsFunc_api_Step_Steps_1 fuel l1).bind fun v2 =>
  if v2 then
    some (([] : List UInt8), 1)
  else
    if ltI 1000 (l1.length : Int) then
      some (([] : List UInt8), 5)
    else
      (M.explain_Steps_l1 fuel l1 fuel ([] : List UInt8) 0).bind fun o12 =>
      (M.strings_Builder_Len o12).bind fun v33 =>
      if ltI 16384 v33 then
        some (([] : List UInt8), 5)
      else
        (M.strings_Builder_String o12).bind fun v38 =>
        some (v38, 0)
def M.ref55_Steps_l2 (l1 : (List Api.Step)) : Nat → (List UInt8) → Nat → Option ((List UInt8))
  | 0, _, _ => none
  | k33 + 1, b28, i29 =>
    if ltI ((i29 : Nat) : Int) (l1.length : Int) then
      (l1[i29]?).bind fun x36 =>
      (M.ref55_Text x36).bind fun v38 =>
      (app 1 b28 v38).bind fun l40 =>
      (app 1 l40 [(10 : UInt8)]).bind fun l44 =>
      M.ref55_Steps_l2 l1 k33 l44 (i29 + 1)
    else
      some b28
def M.ref55_Steps_l1 (fuel : Nat) (l1 : (List Api.Step)) : Nat → Nat → Option (((List UInt8) × Int) ⊕ (Unit))
  | 0, _ => none
  | k7 + 1, i2 =>
    if ltI ((i2 : Nat) : Int) (l1.length : Int) then
      (l1[i2]?).bind fun x11 =>
      (M.ref55_Valid fuel x11).bind fun v13 =>
      if !v13 then
        some (.inl (([] : List UInt8), 1))
      else
        M.ref55_Steps_l1 fuel l1 k7 (i2 + 1)
    else
      some (.inr ())
def M.ref55_Steps (fuel : Nat) (l1 : (List Api.Step)) : Option ((List UInt8) × Int) :=
  (M.ref55_Steps_l1 fuel l1 fuel 0).bind fun o => Sum.elim some (fun o3 =>
    if ltI 1000 (l1.length : Int) then
      some (([] : List UInt8), 5)
    else
      (M.ref55_Steps_l2 l1 fuel ([] : List UInt8) 0).bind fun o30 =>
      if ltI 16384 (o30.length : Int) then
        some (([] : List UInt8), 5)
      else
        some (o30, 0)) o
def M.law55_ExplainSteps_l1 (fuel : Nat) (l41 : (List Api.Step)) : Nat → Nat → Option ((Bool) ⊕ (Unit))
  | 0, _ => none
  | k50 + 1, i45 =>
    if ltI ((i45 : Nat) : Int) (l41.length : Int) then
      (l41[i45]?).bind fun x54 =>
      (M.explain_Step fuel x54).bind fun v56 =>
      (M.ref55_Valid fuel x54).bind fun v58 =>
      if !v58 then
        if (!(eqS v56.1 ([] : List UInt8))) || (!(eqI v56.2 1)) then
          some (.inl false)
        else
          M.law55_ExplainSteps_l1 fuel l41 k50 (i45 + 1)
      else
        ((M.ref55_Text x54).bind fun v73 =>
        if !(eqS v56.1 v73) then
          some true
        else
          some (!(eqI v56.2 0)) : Option Bool).bind fun b78 =>
        if b78 then
          some (.inl false)
        else
          M.law55_ExplainSteps_l1 fuel l41 k50 (i45 + 1)
    else
      some (.inr ())
def M.law55_ExplainSteps (fuel : Nat) (l1 : (List Api.Step)) : Option (Bool) :=
  (M.law55_awake fuel).bind fun v2 =>
  if !v2 then
    some false
  else
    (if ltI 300 (l1.length : Int) then
      if leI (l1.length : Int) 1000 then
        some true
      else
        if ltI 1005 (l1.length : Int) then
          some true
        else
          (M.slices_ContainsFunc_api_Step_ExplainSteps_1 fuel l1).bind fun v16 =>
          some v16
    else
      if ltI 1005 (l1.length : Int) then
        some true
      else
        (M.slices_ContainsFunc_api_Step_ExplainSteps_1 fuel l1).bind fun v23 =>
        some v23 : Option Bool).bind fun b25 =>
    if b25 then
      some true
    else
      (M.explain_Steps fuel l1).bind fun v28 =>
      (M.ref55_Steps fuel l1).bind fun v30 =>
      if (!(eqS v28.1 v30.1)) || (!(eqI v28.2 v30.2)) then
        some false
      else
        (subC l1 0 (minI (l1.length : Int) 20)).bind fun l41 =>
        (M.law55_ExplainSteps_l1 fuel l41 fuel 0).bind fun o => Sum.elim some (fun o46 =>
          some true) o
end Go.Proofs.YtlhikhaailhoaaaDoor
