/- For every input the law LexerPlaces returns true. Part 7 of 18. No condition. -/
import Derived.Test.YthbjlmoaceaeeaaDoorLAf
import Derived.Lib.Bytealg
set_option linter.unusedVariables false
set_option linter.unusedSimpArgs false
set_option maxRecDepth 100000
set_option maxHeartbeats 1000000
namespace Go.Proofs.YthbjlmoaceaeeaaDoor
open Go Go.Abs
def M.stringslite_IndexByte (s : List UInt8) (c : UInt8) : Option Int := some (Lib.indexByte s c)
def M.strings_IndexByte (s1 : (List UInt8)) (c2 : UInt8) : Option (Int) :=
  (M.stringslite_IndexByte s1 c2).bind fun v3 =>
  some v3
def M.stringslite_HasPrefix (s1 : (List UInt8)) (prefix2 : (List UInt8)) : Option (Bool) :=
  (if leI (prefix2.length : Int) (s1.length : Int) then
    (subC s1 0 (prefix2.length : Int)).bind fun s7 =>
    some (eqS s7 prefix2)
  else
    some false : Option Bool).bind fun b14 =>
  some b14
def M.strings_HasPrefix (s1 : (List UInt8)) (prefix2 : (List UInt8)) : Option (Bool) :=
  (M.stringslite_HasPrefix s1 prefix2).bind fun v3 =>
  some v3
def M.lexer_scanner_skip_l2 (w1 : Lexer.scanner) (at2 : Int) : Nat → Int → Int → Option ((Int × Lexer.scanner) ⊕ (Int))
  | 0, _, _ => none
  | k36 + 1, at30, i31 =>
    if leI (w1.s.length : Int) at30 then
      some (.inl (at2, (Lexer.scanner.mk w1.s at30)))
    else
      (subC w1.s at30 (w1.s.length : Int)).bind fun s40 =>
      (M.strings_HasPrefix s40 [40, 42]).bind fun v44 =>
      if v44 then
        (chk .i64 (i31 + 1)).bind fun n47 =>
        (chk .i64 (at30 + 2)).bind fun n52 =>
        if eqI n47 0 then
          some (.inr n52)
        else
          M.lexer_scanner_skip_l2 w1 at2 k36 n52 n47
      else
        (M.strings_HasPrefix s40 [42, 41]).bind fun v61 =>
        if v61 then
          (chk .i64 (i31 - 1)).bind fun n64 =>
          (chk .i64 (at30 + 2)).bind fun n69 =>
          if eqI n64 0 then
            some (.inr n69)
          else
            M.lexer_scanner_skip_l2 w1 at2 k36 n69 n64
        else
          (chk .i64 (at30 + 1)).bind fun n78 =>
          if eqI i31 0 then
            some (.inr n78)
          else
            M.lexer_scanner_skip_l2 w1 at2 k36 n78 i31
def M.lexer_scanner_skip_l1 (fuel : Nat) (w1 : Lexer.scanner) : Nat → Int → Option ((Int × Lexer.scanner) ⊕ (Int))
  | 0, _ => none
  | k7 + 1, at2 =>
    if ltI at2 (w1.s.length : Int) then
      (subC w1.s at2 (w1.s.length : Int)).bind fun s11 =>
      (s11[0]?).bind fun c15 =>
      (M.strings_IndexByte [32, 9, 10] c15).bind fun v17 =>
      if leI 0 v17 then
        (chk .i64 (at2 + 1)).bind fun n21 =>
        M.lexer_scanner_skip_l1 fuel w1 k7 n21
      else
        (M.strings_HasPrefix s11 [40, 42]).bind fun v27 =>
        if v27 then
          (M.lexer_scanner_skip_l2 w1 at2 fuel at2 0).bind fun o => Sum.elim (fun r => some (.inl r)) (fun o32 =>
            M.lexer_scanner_skip_l1 fuel w1 k7 o32) o
        else
          some (.inl ((-1), (Lexer.scanner.mk w1.s at2)))
    else
      some (.inr at2)
def M.lexer_scanner_skip (fuel : Nat) (w1 : Lexer.scanner) : Option (Int × Lexer.scanner) :=
  (M.lexer_scanner_skip_l1 fuel w1 fuel w1.at_).bind fun o => Sum.elim some (fun o3 =>
    some ((-1), (Lexer.scanner.mk w1.s o3))) o
def M.strings_Count (s t : List UInt8) : Option Int := match t with
  | [c] => some (Lib.countByte s c : Nat)
  | _ => none
def M.bytealg_LastIndexByteString_l1 (s1 : (List UInt8)) (c2 : UInt8) : Nat → Int → Option ((Int) ⊕ (Unit))
  | 0, _ => none
  | k15 + 1, i8 =>
    if leI 0 i8 then
      (idx s1 i8).bind fun c18 =>
      if eqI (c18.toNat : Int) (c2.toNat : Int) then
        some (.inl i8)
      else
        M.bytealg_LastIndexByteString_l1 s1 c2 k15 (i8 - 1)
    else
      some (.inr ())
def M.bytealg_LastIndexByteString (fuel : Nat) (s1 : (List UInt8)) (c2 : UInt8) : Option (Int) :=
  (chk .i64 ((s1.length : Int) - 1)).bind fun n3 =>
  (M.bytealg_LastIndexByteString_l1 s1 c2 fuel n3).bind fun o => Sum.elim some (fun o9 =>
    some (-1)) o
def M.strings_LastIndexByte (fuel : Nat) (s1 : (List UInt8)) (c2 : UInt8) : Option (Int) :=
  (M.bytealg_LastIndexByteString fuel s1 c2).bind fun v3 =>
  some v3
def M.lexer_place (fuel : Nat) (s1 : (List UInt8)) (at2 : Int) : Option (Api.Pos) :=
  (subC s1 0 at2).bind fun s3 =>
  (M.strings_Count s3 [10]).bind fun v7 =>
  (chk .i64 (1 + v7)).bind fun n9 =>
  (M.strings_LastIndexByte fuel s3 (10 : UInt8)).bind fun v14 =>
  (chk .i64 (at2 - v14)).bind fun n16 =>
  some (Api.Pos.mk n9 n16)
def M.lexer_small (c1 : UInt8) : Option (Bool) :=
  some ((leI 97 (c1.toNat : Int)) && (leI (c1.toNat : Int) 122))
def M.lexer_capital (c1 : UInt8) : Option (Bool) :=
  some ((leI 65 (c1.toNat : Int)) && (leI (c1.toNat : Int) 90))
def M.lexer_digit (c1 : UInt8) : Option (Bool) :=
  some ((leI 48 (c1.toNat : Int)) && (leI (c1.toNat : Int) 57))
def M.lexer_inner (c1 : UInt8) : Option (Bool) :=
  ((M.lexer_small c1).bind fun v2 =>
  if v2 then
    some true
  else
    (M.lexer_capital c1).bind fun v5 =>
    if v5 then
      some true
    else
      (M.lexer_digit c1).bind fun v8 =>
      if v8 then
        some true
      else
        some (eqI (c1.toNat : Int) 95) : Option Bool).bind fun b11 =>
  some b11
def M.lexer_length_inner_l1 (s1 : (List UInt8)) : Nat → Int → Option (Int)
  | 0, _ => none
  | k7 + 1, n2 =>
    (if ltI n2 (s1.length : Int) then
      (idx s1 n2).bind fun c11 =>
      (M.lexer_inner c11).bind fun v15 =>
      some v15
    else
      some false : Option Bool).bind fun b19 =>
    if b19 then
      (chk .i64 (n2 + 1)).bind fun n22 =>
      M.lexer_length_inner_l1 s1 k7 n22
    else
      some n2
def M.lexer_length_inner (fuel : Nat) (s1 : (List UInt8)) : Option (Int) :=
  (M.lexer_length_inner_l1 s1 fuel 0).bind fun o3 =>
  some o3
def M.lexer_Keyword (s1 : (List UInt8)) : Option (Bool) :=
  if eqS s1 [97, 110, 100, 97, 108, 115, 111] then
    some true
  else
    if eqS s1 [99, 97, 115, 101] then
      some true
    else
      if eqS s1 [100, 97, 116, 97] then
        some true
      else
        if eqS s1 [100, 105, 118] then
          some true
        else
          if eqS s1 [101, 108, 115, 101] then
            some true
          else
            if eqS s1 [101, 110, 100] then
              some true
            else
              if eqS s1 [102, 110] then
                some true
              else
                if eqS s1 [102, 117, 110] then
                  some true
                else
                  if eqS s1 [102, 117, 110, 99, 116, 111, 114] then
                    some true
                  else
                    if eqS s1 [103, 101, 110, 101, 114, 97, 116, 105, 118, 101] then
                      some true
                    else
                      if eqS s1 [105, 102] then
                        some true
                      else
                        if eqS s1 [105, 109, 112, 111, 114, 116] then
                          some true
                        else
                          if eqS s1 [105, 110] then
                            some true
                          else
                            if eqS s1 [105, 110, 99, 108, 117, 100, 101] then
                              some true
                            else
                              if eqS s1 [108, 101, 116] then
                                some true
                              else
                                if eqS s1 [109, 111, 100] then
                                  some true
                                else
                                  if eqS s1 [109, 111, 100, 117, 108, 101] then
                                    some true
                                  else
                                    if eqS s1 [111, 102] then
                                      some true
                                    else
                                      if eqS s1 [111, 112, 101, 110] then
                                        some true
                                      else
                                        if eqS s1 [111, 114, 101, 108, 115, 101] then
                                          some true
                                        else
                                          if eqS s1 [112, 97, 99, 107] then
                                            some true
                                          else
                                            if eqS s1 [115, 104, 97, 114, 105, 110, 103] then
                                              some true
                                            else
                                              if eqS s1 [115, 105, 103] then
                                                some true
                                              else
                                                if eqS s1 [115, 105, 103, 110, 97, 116, 117, 114, 101] then
                                                  some true
                                                else
                                                  if eqS s1 [115, 116, 114, 117, 99, 116] then
                                                    some true
                                                  else
                                                    if eqS s1 [115, 116, 114, 117, 99, 116, 117, 114, 101] then
                                                      some true
                                                    else
                                                      if eqS s1 [116, 104, 101, 110] then
                                                        some true
                                                      else
                                                        if eqS s1 [116, 121, 112, 101] then
                                                          some true
                                                        else
                                                          if eqS s1 [117, 110, 112, 97, 99, 107] then
                                                            some true
                                                          else
                                                            if eqS s1 [118, 97, 108] then
                                                              some true
                                                            else
                                                              if eqS s1 [119, 105, 116, 104] then
                                                                some true
                                                              else
                                                                some false
def M.lexer_scanner_token_1 (kind1 : Int) (n2 : Int) (text3 : (List UInt8)) (w4 : Lexer.scanner) : Option (Api.Token × Int × Int × Lexer.scanner) :=
  (chk .i64 (w4.at_ + n2)).bind fun n5 =>
  some ((Api.Token.mk kind1 text3 (Api.Pos.mk 0 0)), 0, 0, (Lexer.scanner.mk w4.s n5))
def M.lexer_scanner_token_2 (by1 : Int) (e2 : Int) (w3 : Lexer.scanner) : Option (Api.Token × Int × Int) :=
  (chk .i64 (w3.at_ + by1)).bind fun n4 =>
  some ((Api.Token.mk 0 ([] : List UInt8) (Api.Pos.mk 0 0)), n4, e2)
def M.lexer_length_digit_l1 (s1 : (List UInt8)) : Nat → Int → Option (Int)
  | 0, _ => none
  | k7 + 1, n2 =>
    (if ltI n2 (s1.length : Int) then
      (idx s1 n2).bind fun c11 =>
      (M.lexer_digit c11).bind fun v15 =>
      some v15
    else
      some false : Option Bool).bind fun b19 =>
    if b19 then
      (chk .i64 (n2 + 1)).bind fun n22 =>
      M.lexer_length_digit_l1 s1 k7 n22
    else
      some n2
def M.lexer_length_digit (fuel : Nat) (s1 : (List UInt8)) : Option (Int) :=
  (M.lexer_length_digit_l1 s1 fuel 0).bind fun o3 =>
  some o3
def M.lexer_number_l1 (s1 : (List UInt8)) : Nat → Int → Nat → Option ((Int) ⊕ (Unit))
  | 0, _, _ => none
  | k18 + 1, n12, i13 =>
    if ltI ((i13 : Nat) : Int) (s1.length : Int) then
      (chk .i64 (10 * n12)).bind fun n22 =>
      (s1[i13]?).bind fun c27 =>
      (chk .u8 ((c27.toNat : Int) - 48)).bind fun n29 =>
      (chk .i64 (n22 + n29)).bind fun n35 =>
      if ltI 4503599627370496 n35 then
        some (.inl 6)
      else
        M.lexer_number_l1 s1 k18 n35 (i13 + 1)
    else
      some (.inr ())
def M.lexer_number (fuel : Nat) (s1 : (List UInt8)) : Option (Int) :=
  (if ltI 1 (s1.length : Int) then
    (s1[0]?).bind fun c5 =>
    some (eqI (c5.toNat : Int) 48)
  else
    some false : Option Bool).bind fun b9 =>
  if b9 then
    some 3
  else
    (M.lexer_number_l1 s1 fuel 0 0).bind fun o => Sum.elim some (fun o14 =>
      some 0) o
def M.strings_Builder_String (b : List UInt8) : Option (List UInt8) := some b
def M.strings_Builder_copyCheck (b : List UInt8) : Option Unit := some ()
def M.strings_Builder_WriteByte (c1 : UInt8) (b2 : (List UInt8)) : Option ((List UInt8)) :=
  (M.strings_Builder_copyCheck b2).bind fun v3 =>
  (app 1 b2 [c1]).bind fun l5 =>
  some l5
def M.lexer_visible (c1 : UInt8) : Option (Bool) :=
  some ((leI 32 (c1.toNat : Int)) && (leI (c1.toNat : Int) 126))
def M.lexer_literal_l1 (s1 : (List UInt8)) : Nat → (List UInt8) → Nat → Option (((List UInt8) × Int × Int × Int) ⊕ ((List UInt8)))
  | 0, _, _ => none
  | k8 + 1, buf2, i3 =>
    if ltI ((i3 : Nat) : Int) (s1.length : Int) then
      (s1[i3]?).bind fun c12 =>
      if eqI (c12.toNat : Int) 34 then
        (M.strings_Builder_String buf2).bind fun v16 =>
        some (.inl (v16, ((i3 + 1 : Nat) : Int), 0, 0))
      else
        if (eqI (c12.toNat : Int) 92) && (ltI ((i3 + 1 : Nat) : Int) (s1.length : Int)) then
          (s1[i3 + 1]?).bind fun c31 =>
          if eqI (c31.toNat : Int) 34 then
            (M.strings_Builder_WriteByte c31 buf2).bind fun v35 =>
            M.lexer_literal_l1 s1 k8 v35 ((i3 + 1) + 1)
          else
            if eqI (c31.toNat : Int) 92 then
              (M.strings_Builder_WriteByte c31 buf2).bind fun v42 =>
              M.lexer_literal_l1 s1 k8 v42 ((i3 + 1) + 1)
            else
              if eqI (c31.toNat : Int) 110 then
                (M.strings_Builder_WriteByte (10 : UInt8) buf2).bind fun v49 =>
                M.lexer_literal_l1 s1 k8 v49 ((i3 + 1) + 1)
              else
                some (.inl (([] : List UInt8), 0, ((i3 + 1 : Nat) : Int) - 1, 3))
        else
          if eqI (c12.toNat : Int) 92 then
            some (.inl (([] : List UInt8), 0, 0, 4))
          else
            (M.lexer_visible c12).bind fun v58 =>
            if !v58 then
              some (.inl (([] : List UInt8), 0, ((i3 : Nat) : Int), 3))
            else
              (M.strings_Builder_WriteByte c12 buf2).bind fun v63 =>
              M.lexer_literal_l1 s1 k8 v63 (i3 + 1)
    else
      some (.inr buf2)
def M.lexer_literal (fuel : Nat) (s1 : (List UInt8)) : Option ((List UInt8) × Int × Int × Int) :=
  (M.lexer_literal_l1 s1 fuel ([] : List UInt8) 1).bind fun o => Sum.elim some (fun o4 =>
    some (([] : List UInt8), 0, 0, 4)) o
def M.lexer_Symbol_l1 (s1 : (List UInt8)) (l5 : (List (List UInt8))) : Nat → Nat → Option (((List UInt8) × Bool) ⊕ (Unit))
  | 0, _ => none
  | k14 + 1, i9 =>
    if ltI ((i9 : Nat) : Int) (l5.length : Int) then
      (l5[i9]?).bind fun x18 =>
      (M.strings_HasPrefix s1 x18).bind fun v20 =>
      if v20 then
        some (.inl (x18, true))
      else
        M.lexer_Symbol_l1 s1 l5 k14 (i9 + 1)
    else
      some (.inr ())
def M.lexer_Symbol (fuel : Nat) (s1 : (List UInt8)) : Option ((List UInt8) × Bool) :=
  (M.strings_HasPrefix s1 [40, 42]).bind fun v2 =>
  if v2 then
    some (([] : List UInt8), false)
  else
    (some [[58, 62], [61, 62], [45, 62], [60, 61]]).bind fun l5 =>
    (M.lexer_Symbol_l1 s1 l5 fuel 0).bind fun o => Sum.elim some (fun o10 =>
      (if !(eqS s1 ([] : List UInt8)) then
        (s1[0]?).bind fun c30 =>
        (M.strings_IndexByte [40, 41, 44, 59, 58, 61, 124, 95, 46, 42, 43, 45, 60, 94, 126] c30).bind fun v32 =>
        some (leI 0 v32)
      else
        some false : Option Bool).bind fun b35 =>
      if b35 then
        (subC s1 0 1).bind fun s38 =>
        some (s38, true)
      else
        some (([] : List UInt8), false)) o
def M.lexer_scanner_token (fuel : Nat) (w1 : Lexer.scanner) : Option (Api.Token × Int × Int × Lexer.scanner) :=
  (subC w1.s w1.at_ (w1.s.length : Int)).bind fun s2 =>
  (s2[0]?).bind fun c6 =>
  ((M.lexer_small c6).bind fun v8 =>
  if v8 then
    some true
  else
    (M.lexer_capital c6).bind fun v11 =>
    some v11 : Option Bool).bind fun b13 =>
  if b13 then
    (M.lexer_length_inner fuel s2).bind fun v16 =>
    (subC s2 0 v16).bind fun s18 =>
    (M.lexer_Keyword s18).bind fun v22 =>
    if v22 then
      (M.lexer_scanner_token_1 6 v16 s18 w1).bind fun v25 =>
      some (v25.1, v25.2.1, v25.2.2.1, v25.2.2.2)
    else
      if ltI 24 v16 then
        (M.lexer_scanner_token_2 0 5 w1).bind fun v30 =>
        some (v30.1, v30.2.1, v30.2.2, w1)
      else
        (M.lexer_small c6).bind fun v34 =>
        if v34 then
          (M.lexer_scanner_token_1 1 v16 s18 w1).bind fun v37 =>
          some (v37.1, v37.2.1, v37.2.2.1, v37.2.2.2)
        else
          (M.lexer_scanner_token_1 2 v16 s18 w1).bind fun v40 =>
          some (v40.1, v40.2.1, v40.2.2.1, v40.2.2.2)
  else
    if eqI (c6.toNat : Int) 39 then
      (if ltI (s2.length : Int) 2 then
        some true
      else
        (s2[1]?).bind fun c53 =>
        (M.lexer_small c53).bind fun v55 =>
        some (!v55) : Option Bool).bind fun b57 =>
      if b57 then
        (M.lexer_scanner_token_2 0 3 w1).bind fun v60 =>
        some (v60.1, v60.2.1, v60.2.2, w1)
      else
        (subC s2 1 (s2.length : Int)).bind fun s63 =>
        (M.lexer_length_inner fuel s63).bind fun v67 =>
        (chk .i64 (1 + v67)).bind fun n69 =>
        if ltI 24 n69 then
          (M.lexer_scanner_token_2 0 5 w1).bind fun v76 =>
          some (v76.1, v76.2.1, v76.2.2, w1)
        else
          (subC s2 0 n69).bind fun s80 =>
          (M.lexer_scanner_token_1 3 n69 s80 w1).bind fun v84 =>
          some (v84.1, v84.2.1, v84.2.2.1, v84.2.2.2)
    else
      (M.lexer_digit c6).bind fun v90 =>
      if v90 then
        (M.lexer_length_digit fuel s2).bind fun v93 =>
        (subC s2 0 v93).bind fun s95 =>
        (M.lexer_number fuel s95).bind fun v99 =>
        if !(eqI v99 0) then
          (M.lexer_scanner_token_2 0 v99 w1).bind fun v104 =>
          some (v104.1, v104.2.1, v104.2.2, w1)
        else
          (M.lexer_scanner_token_1 4 v93 s95 w1).bind fun v109 =>
          some (v109.1, v109.2.1, v109.2.2.1, v109.2.2.2)
      else
        if eqI (c6.toNat : Int) 34 then
          (M.lexer_literal fuel s2).bind fun v116 =>
          if !(eqI v116.2.2.2 0) then
            (M.lexer_scanner_token_2 v116.2.2.1 v116.2.2.2 w1).bind fun v121 =>
            some (v121.1, v121.2.1, v121.2.2, w1)
          else
            (M.lexer_scanner_token_1 5 v116.2.1 v116.1 w1).bind fun v126 =>
            some (v126.1, v126.2.1, v126.2.2.1, v126.2.2.2)
        else
          (M.lexer_Symbol fuel s2).bind fun v131 =>
          if v131.2 then
            (M.lexer_scanner_token_1 7 (v131.1.length : Int) v131.1 w1).bind fun v134 =>
            some (v134.1, v134.2.1, v134.2.2.1, v134.2.2.2)
          else
            (M.lexer_scanner_token_2 0 3 w1).bind fun v137 =>
            some (v137.1, v137.2.1, v137.2.2, w1)
def M.lexer_Tokens_l1 (fuel : Nat) (a1 : (List UInt8)) : Nat → (List UInt8) → Int → (List Api.Token) → Option ((List Api.Token) × Api.Pos × Int)
  | 0, _, _, _ => none
  | k12 + 1, s7, at8, i9 =>
    (M.lexer_scanner_skip fuel (Lexer.scanner.mk s7 at8)).bind fun v13 =>
    if leI 0 v13.1 then
      (M.lexer_place fuel a1 v13.1).bind fun v17 =>
      some (([] : List Api.Token), v17, 4)
    else
      if leI (a1.length : Int) v13.2.at_ then
        (M.lexer_place fuel a1 (a1.length : Int)).bind fun v23 =>
        (app 40 i9 [(Api.Token.mk 8 ([] : List UInt8) v23)]).bind fun l25 =>
        some (l25, (Api.Pos.mk 0 0), 0)
      else
        if eqI (i9.length : Int) 20000 then
          (M.lexer_place fuel a1 v13.2.at_).bind fun v33 =>
          some (([] : List Api.Token), v33, 5)
        else
          (M.lexer_scanner_token fuel v13.2).bind fun v37 =>
          if !(eqI v37.2.2.1 0) then
            (M.lexer_place fuel a1 v37.2.1).bind fun v42 =>
            some (([] : List Api.Token), v42, v37.2.2.1)
          else
            (M.lexer_place fuel a1 v13.2.at_).bind fun v47 =>
            (app 40 i9 [(Api.Token.mk v37.1.Kind v37.1.Text v47)]).bind fun l49 =>
            M.lexer_Tokens_l1 fuel a1 k12 v37.2.2.2.s v37.2.2.2.at_ l49
def M.lexer_Tokens (fuel : Nat) (a1 : (List UInt8)) : Option ((List Api.Token) × Api.Pos × Int) :=
  if ltI 16384 (a1.length : Int) then
    some (([] : List Api.Token), (Api.Pos.mk 0 0), 5)
  else
    M.lexer_Tokens_l1 fuel a1 fuel a1 0 ([] : List Api.Token)
def M.law02_awake (fuel : Nat) : Option (Bool) :=
  (M.lexer_Tokens fuel [118, 97, 108, 32, 120, 32, 61, 32, 126, 32, 49, 32, 40, 42, 32, 111, 110, 101, 32, 42, 41]).bind fun v1 =>
  (M.lexer_Tokens fuel [97, 32, 33]).bind fun v3 =>
  (M.lexer_Tokens fuel [48, 48, 55]).bind fun v5 =>
  (if eqI v1.2.2 0 then
    if eqI (v1.1.length : Int) 6 then
      (v1.1[0]?).bind fun x11 =>
      if (eqI x11.Kind 6) && ((eqS x11.Text [118, 97, 108]) && ((eqI x11.At.Line 1) && (eqI x11.At.Column 1))) then
        (v1.1[5]?).bind fun x14 =>
        if (eqI x14.Kind 8) && ((eqS x14.Text ([] : List UInt8)) && ((eqI x14.At.Line 1) && (eqI x14.At.Column 22))) then
          if eqI v3.2.2 3 then
            if (eqI v3.2.1.Line 1) && (eqI v3.2.1.Column 3) then
              some (eqI v5.2.2 3)
            else
              some false
          else
            some false
        else
          some false
      else
        some false
    else
      some false
  else
    some false : Option Bool).bind fun b23 =>
  some b23
def M.strings_Split (s t : List UInt8) : Option (List (List UInt8)) := if s.length < 4294967281 ∧ 1 ≤ t.length then some (Lib.split s t) else none
def M.law02_LexerPlaces_1 (p1 : Api.Pos) (c2 : (List (List UInt8))) : Option ((List UInt8) × Bool) :=
  (if ltI p1.Line 1 then
    some true
  else
    if ltI (c2.length : Int) p1.Line then
      some true
    else
      if ltI p1.Column 1 then
        some true
      else
        (idx c2 (p1.Line - 1)).bind fun x15 =>
        (chk .i64 ((x15.length : Int) + 1)).bind fun n19 =>
        some (ltI n19 p1.Column) : Option Bool).bind fun b24 =>
  if b24 then
    some (([] : List UInt8), false)
  else
    (chk .i64 (p1.Line - 1)).bind fun n27 =>
    (idx c2 n27).bind fun x32 =>
    (chk .i64 (p1.Column - 1)).bind fun n36 =>
    (subC x32 n36 (x32.length : Int)).bind fun s41 =>
    some (s41, true)
def M.strings_Builder_WriteString (s1 : (List UInt8)) (b2 : (List UInt8)) : Option (Int × (List UInt8)) :=
  (M.strings_Builder_copyCheck b2).bind fun v3 =>
  (app 1 b2 s1).bind fun l5 =>
  some ((s1.length : Int), l5)
def M.lexer_Quote_l1 (s1 : (List UInt8)) : Nat → (List UInt8) → Nat → Option (((List UInt8) × Int) ⊕ ((List UInt8)))
  | 0, _, _ => none
  | k15 + 1, buf9, i10 =>
    if ltI ((i10 : Nat) : Int) (s1.length : Int) then
      (s1[i10]?).bind fun c18 =>
      if eqI (c18.toNat : Int) 10 then
        (M.strings_Builder_WriteString [92, 110] buf9).bind fun v22 =>
        M.lexer_Quote_l1 s1 k15 v22.2 (i10 + 1)
      else
        (M.lexer_visible c18).bind fun v27 =>
        if !v27 then
          some (.inl (([] : List UInt8), 3))
        else
          if (eqI (c18.toNat : Int) 34) || (eqI (c18.toNat : Int) 92) then
            (M.strings_Builder_WriteByte (92 : UInt8) buf9).bind fun v36 =>
            (M.strings_Builder_WriteByte c18 v36).bind fun v38 =>
            M.lexer_Quote_l1 s1 k15 v38 (i10 + 1)
          else
            (M.strings_Builder_WriteByte c18 buf9).bind fun v47 =>
            M.lexer_Quote_l1 s1 k15 v47 (i10 + 1)
    else
      some (.inr buf9)
def M.lexer_Quote (fuel : Nat) (s1 : (List UInt8)) : Option ((List UInt8) × Int) :=
  if ltI 16384 (s1.length : Int) then
    some (([] : List UInt8), 5)
  else
    (M.strings_Builder_WriteByte (34 : UInt8) ([] : List UInt8)).bind fun v7 =>
    (M.lexer_Quote_l1 s1 fuel v7 0).bind fun o => Sum.elim some (fun o11 =>
      (M.strings_Builder_WriteByte (34 : UInt8) o11).bind fun v54 =>
      (M.strings_Builder_String v54).bind fun v56 =>
      some (v56, 0)) o
def M.law02_LexerPlaces_l1 (fuel : Nat) (v12 : (List Api.Token) × Api.Pos × Int) (v14 : (List (List UInt8))) : Nat → Nat → Option ((Bool) ⊕ (Unit))
  | 0, _ => none
  | k30 + 1, i25 =>
    if ltI ((i25 : Nat) : Int) (v12.1.length : Int) then
      (v12.1[i25]?).bind fun x34 =>
      (M.law02_LexerPlaces_1 x34.At v14).bind fun v36 =>
      if eqI x34.Kind 5 then
        (M.lexer_Quote fuel x34.Text).bind fun v40 =>
        if !(eqI v40.2 0) then
          some (.inl false)
        else
          (if !v36.2 then
            some true
          else
            (M.strings_HasPrefix v36.1 v40.1).bind fun v50 =>
            if !v50 then
              some true
            else
              some (!(eqB (eqI x34.Kind 8) (eqI ((i25 : Nat) : Int) ((v12.1.length : Int) - 1)))) : Option Bool).bind fun b56 =>
          if b56 then
            some (.inl false)
          else
            (if ltI 0 ((i25 : Nat) : Int) then
              (idx v12.1 (((i25 : Nat) : Int) - 1)).bind fun x62 =>
              if ltI x34.At.Line x62.At.Line then
                some true
              else
                if eqI x34.At.Line x62.At.Line then
                  if leI x34.At.Column x62.At.Column then
                    some (!(eqI x34.Kind 8))
                  else
                    some false
                else
                  some false
            else
              some false : Option Bool).bind fun b78 =>
            if b78 then
              some (.inl false)
            else
              M.law02_LexerPlaces_l1 fuel v12 v14 k30 (i25 + 1)
      else
        (if !v36.2 then
          some true
        else
          (M.strings_HasPrefix v36.1 x34.Text).bind fun v89 =>
          if !v89 then
            some true
          else
            some (!(eqB (eqI x34.Kind 8) (eqI ((i25 : Nat) : Int) ((v12.1.length : Int) - 1)))) : Option Bool).bind fun b95 =>
        if b95 then
          some (.inl false)
        else
          (if ltI 0 ((i25 : Nat) : Int) then
            (idx v12.1 (((i25 : Nat) : Int) - 1)).bind fun x101 =>
            if ltI x34.At.Line x101.At.Line then
              some true
            else
              if eqI x34.At.Line x101.At.Line then
                if leI x34.At.Column x101.At.Column then
                  some (!(eqI x34.Kind 8))
                else
                  some false
              else
                some false
          else
            some false : Option Bool).bind fun b117 =>
          if b117 then
            some (.inl false)
          else
            M.law02_LexerPlaces_l1 fuel v12 v14 k30 (i25 + 1)
    else
      some (.inr ())
def M.law02_LexerPlaces (fuel : Nat) (a1 : (List UInt8)) : Option (Bool) :=
  (M.law02_awake fuel).bind fun v2 =>
  if !v2 then
    some false
  else
    if ltI 1500 (a1.length : Int) then
      some true
    else
      (M.lexer_Tokens fuel a1).bind fun v12 =>
      (M.strings_Split a1 [10]).bind fun v14 =>
      if !(eqI v12.2.2 0) then
        (M.law02_LexerPlaces_1 v12.2.1 v14).bind fun v19 =>
        some (v19.2 && (eqI (v12.1.length : Int) 0))
      else
        (M.law02_LexerPlaces_l1 fuel v12 v14 fuel 0).bind fun o => Sum.elim some (fun o26 =>
          some (ltI 0 (v12.1.length : Int))) o
end Go.Proofs.YthbjlmoaceaeeaaDoor
