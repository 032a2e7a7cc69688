/- For every input the law LexerPlaces returns true. Part 8 of 18. No condition. -/
import Derived.Test.YthbjlmoaceaeeaaDoorLAg
import Derived.Lib.Join
set_option linter.unusedVariables false
set_option linter.unusedSimpArgs false
set_option maxRecDepth 100000
set_option maxHeartbeats 1000000
namespace Go.Proofs.YthbjlmoaceaeeaaDoor
open Go Go.Abs
def M.law02_long (s1 : (List UInt8)) : Option (Bool) :=
  some (if ltI 1500 (s1.length : Int) then (leI (s1.length : Int) 16384) || (ltI 20000 (s1.length : Int)) else ltI 20000 (s1.length : Int))
def M.ref02_begins (s1 : (List UInt8)) (t2 : (List UInt8)) : Option (Bool) :=
  (if leI (t2.length : Int) (s1.length : Int) then
    (subC s1 0 (t2.length : Int)).bind fun s7 =>
    some (eqS s7 t2)
  else
    some false : Option Bool).bind fun b14 =>
  some b14
def M.ref02_comment_l1 (s1 : (List UInt8)) : Nat → Int → Int → Option ((Int) ⊕ (Unit))
  | 0, _, _ => none
  | k9 + 1, depth2, i3 =>
    (chk .i64 (i3 + 1)).bind fun n10 =>
    if ltI n10 (s1.length : Int) then
      ((idx s1 i3).bind fun c18 =>
      if eqI (c18.toNat : Int) 40 then
        (idx s1 n10).bind fun c25 =>
        some (eqI (c25.toNat : Int) 42)
      else
        some false : Option Bool).bind fun b30 =>
      if b30 then
        (chk .i64 (depth2 + 1)).bind fun n33 =>
        (chk .i64 (i3 + 2)).bind fun n38 =>
        M.ref02_comment_l1 s1 k9 n33 n38
      else
        ((idx s1 i3).bind fun c43 =>
        if eqI (c43.toNat : Int) 42 then
          (idx s1 n10).bind fun c50 =>
          some (eqI (c50.toNat : Int) 41)
        else
          some false : Option Bool).bind fun b55 =>
        if b55 then
          (chk .i64 (depth2 - 1)).bind fun n58 =>
          (chk .i64 (i3 + 2)).bind fun n63 =>
          if eqI n58 0 then
            some (.inl n63)
          else
            M.ref02_comment_l1 s1 k9 n58 n63
        else
          M.ref02_comment_l1 s1 k9 depth2 n10
    else
      some (.inr ())
def M.ref02_comment (fuel : Nat) (s1 : (List UInt8)) : Option (Int) :=
  (M.ref02_comment_l1 s1 fuel 0 0).bind fun o => Sum.elim some (fun o4 =>
    some 0) o
def M.ref02_Skip_l1 (fuel : Nat) (s1 : (List UInt8)) : Nat → Int → Option ((Int × Bool) ⊕ (Int))
  | 0, _ => none
  | k7 + 1, i2 =>
    if ltI i2 (s1.length : Int) then
      ((idx s1 i2).bind fun c11 =>
      if eqI (c11.toNat : Int) 32 then
        some true
      else
        if eqI (c11.toNat : Int) 9 then
          some true
        else
          some (eqI (c11.toNat : Int) 10) : Option Bool).bind fun b21 =>
      if b21 then
        (chk .i64 (i2 + 1)).bind fun n24 =>
        M.ref02_Skip_l1 fuel s1 k7 n24
      else
        (subC s1 i2 (s1.length : Int)).bind fun s29 =>
        (M.ref02_begins s29 [40, 42]).bind fun v33 =>
        if !v33 then
          some (.inr i2)
        else
          (M.ref02_comment fuel s29).bind fun v39 =>
          if eqI v39 0 then
            some (.inl (i2, true))
          else
            (chk .i64 (i2 + v39)).bind fun n44 =>
            M.ref02_Skip_l1 fuel s1 k7 n44
    else
      some (.inr i2)
def M.ref02_Skip (fuel : Nat) (s1 : (List UInt8)) : Option (Int × Bool) :=
  (M.ref02_Skip_l1 fuel s1 fuel 0).bind fun o => Sum.elim some (fun o3 =>
    some (o3, false)) o
def M.ref02_Place_l1 (s1 : (List UInt8)) (at2 : Int) : Nat → Int → Int → Int → Option (Int × Int)
  | 0, _, _, _ => none
  | k11 + 1, Line3, Column4, i5 =>
    if ltI i5 at2 then
      (idx s1 i5).bind fun c14 =>
      if eqI (c14.toNat : Int) 10 then
        (chk .i64 (Line3 + 1)).bind fun n20 =>
        (chk .i64 (i5 + 1)).bind fun n25 =>
        M.ref02_Place_l1 s1 at2 k11 n20 1 n25
      else
        (chk .i64 (Column4 + 1)).bind fun n31 =>
        (chk .i64 (i5 + 1)).bind fun n36 =>
        M.ref02_Place_l1 s1 at2 k11 Line3 n31 n36
    else
      some (Line3, Column4)
def M.ref02_Place (fuel : Nat) (s1 : (List UInt8)) (at2 : Int) : Option (Api.Pos) :=
  (M.ref02_Place_l1 s1 at2 fuel 1 1 0).bind fun o6 =>
  some (Api.Pos.mk o6.1 o6.2)
def M.ref02_Small (c1 : UInt8) : Option (Bool) :=
  some ((leI 97 (c1.toNat : Int)) && (leI (c1.toNat : Int) 122))
def M.ref02_Great (c1 : UInt8) : Option (Bool) :=
  some ((leI 65 (c1.toNat : Int)) && (leI (c1.toNat : Int) 90))
def M.ref02_Digit (c1 : UInt8) : Option (Bool) :=
  some ((leI 48 (c1.toNat : Int)) && (leI (c1.toNat : Int) 57))
def M.ref02_part (c1 : UInt8) : Option (Bool) :=
  ((M.ref02_Small c1).bind fun v2 =>
  if v2 then
    some true
  else
    (M.ref02_Great c1).bind fun v5 =>
    if v5 then
      some true
    else
      (M.ref02_Digit c1).bind fun v8 =>
      if v8 then
        some true
      else
        some (eqI (c1.toNat : Int) 95) : Option Bool).bind fun b11 =>
  some b11
def M.ref02_names_l1 (s1 : (List UInt8)) : Nat → Int → Option (Int)
  | 0, _ => none
  | k20 + 1, n15 =>
    (if ltI n15 (s1.length : Int) then
      (idx s1 n15).bind fun c24 =>
      (M.ref02_part c24).bind fun v28 =>
      some v28
    else
      some false : Option Bool).bind fun b32 =>
    if b32 then
      (chk .i64 (n15 + 1)).bind fun n35 =>
      M.ref02_names_l1 s1 k20 n35
    else
      some n15
def M.ref02_names (fuel : Nat) (s1 : (List UInt8)) : Option (Int) :=
  (if eqS s1 ([] : List UInt8) then
    some true
  else
    (s1[0]?).bind fun c3 =>
    (M.ref02_Small c3).bind fun v5 =>
    if !v5 then
      (M.ref02_Great c3).bind fun v9 =>
      some (!v9)
    else
      some false : Option Bool).bind fun b12 =>
  if b12 then
    some 0
  else
    (M.ref02_names_l1 s1 fuel 1).bind fun o16 =>
    some o16
def M.ref02_Words : Option ((List (List UInt8))) :=
  (some [[97, 110, 100, 97, 108, 115, 111], [99, 97, 115, 101], [100, 97, 116, 97], [100, 105, 118], [101, 108, 115, 101], [101, 110, 100], [102, 110], [102, 117, 110], [102, 117, 110, 99, 116, 111, 114], [103, 101, 110, 101, 114, 97, 116, 105, 118, 101], [105, 102], [105, 109, 112, 111, 114, 116], [105, 110], [105, 110, 99, 108, 117, 100, 101], [108, 101, 116], [109, 111, 100], [109, 111, 100, 117, 108, 101], [111, 102], [111, 112, 101, 110], [111, 114, 101, 108, 115, 101], [112, 97, 99, 107], [115, 104, 97, 114, 105, 110, 103], [115, 105, 103], [115, 105, 103, 110, 97, 116, 117, 114, 101], [115, 116, 114, 117, 99, 116], [115, 116, 114, 117, 99, 116, 117, 114, 101], [116, 104, 101, 110], [116, 121, 112, 101], [117, 110, 112, 97, 99, 107], [118, 97, 108], [119, 105, 116, 104]]).bind fun l1 =>
  some l1
def M.ref02_Word_l1 (s1 : (List UInt8)) (v2 : (List (List UInt8))) : Nat → Nat → Option ((Bool) ⊕ (Unit))
  | 0, _ => none
  | k9 + 1, i4 =>
    if ltI ((i4 : Nat) : Int) (v2.length : Int) then
      (v2[i4]?).bind fun x13 =>
      if eqS x13 s1 then
        some (.inl true)
      else
        M.ref02_Word_l1 s1 v2 k9 (i4 + 1)
    else
      some (.inr ())
def M.ref02_Word (fuel : Nat) (s1 : (List UInt8)) : Option (Bool) :=
  (M.ref02_Words).bind fun v2 =>
  (M.ref02_Word_l1 s1 v2 fuel 0).bind fun o => Sum.elim some (fun o5 =>
    some false) o
def M.ref02_Number_l1 (s1 : (List UInt8)) : Nat → Int → Nat → Option ((Int) ⊕ (Unit))
  | 0, _, _ => none
  | k18 + 1, n12, i13 =>
    if ltI ((i13 : Nat) : Int) (s1.length : Int) then
      (chk .i64 (10 * n12)).bind fun n22 =>
      (s1[i13]?).bind fun c27 =>
      (chk .u8 ((c27.toNat : Int) - 48)).bind fun n29 =>
      (chk .i64 (n22 + n29)).bind fun n35 =>
      if ltI 4503599627370496 n35 then
        some (.inl 6)
      else
        M.ref02_Number_l1 s1 k18 n35 (i13 + 1)
    else
      some (.inr ())
def M.ref02_Number (fuel : Nat) (s1 : (List UInt8)) : Option (Int) :=
  (if ltI 1 (s1.length : Int) then
    (s1[0]?).bind fun c5 =>
    some (eqI (c5.toNat : Int) 48)
  else
    some false : Option Bool).bind fun b9 =>
  if b9 then
    some 3
  else
    (M.ref02_Number_l1 s1 fuel 0 0).bind fun o => Sum.elim some (fun o14 =>
      some 0) o
def M.ref02_literal_l1 (a1 : (List UInt8)) : Nat → (List UInt8) → Int → Option (((List UInt8) × Int × Int × Int) ⊕ ((List UInt8) × Int))
  | 0, _, _ => none
  | k9 + 1, i2, i3 =>
    (if ltI i3 (a1.length : Int) then
      (idx a1 i3).bind fun c13 =>
      some (!(eqI (c13.toNat : Int) 34))
    else
      some false : Option Bool).bind fun b19 =>
    if b19 then
      (idx a1 i3).bind fun c22 =>
      if eqI (c22.toNat : Int) 92 then
        (chk .i64 (i3 + 1)).bind fun n28 =>
        if eqI n28 (a1.length : Int) then
          some (.inl (([] : List UInt8), 0, 4, 0))
        else
          (idx a1 n28).bind fun c37 =>
          if eqI (c37.toNat : Int) 110 then
            (cat i2 [10]).bind fun s43 =>
            (chk .i64 (i3 + 2)).bind fun n47 =>
            M.ref02_literal_l1 a1 k9 s43 n47
          else
            if eqI (c37.toNat : Int) 34 then
              (cat i2 [34]).bind fun s55 =>
              (chk .i64 (i3 + 2)).bind fun n59 =>
              M.ref02_literal_l1 a1 k9 s55 n59
            else
              if eqI (c37.toNat : Int) 92 then
                (cat i2 [92]).bind fun s67 =>
                (chk .i64 (i3 + 2)).bind fun n71 =>
                M.ref02_literal_l1 a1 k9 s67 n71
              else
                some (.inl (([] : List UInt8), 0, 3, i3))
      else
        if (ltI (c22.toNat : Int) 32) || (ltI 126 (c22.toNat : Int)) then
          some (.inl (([] : List UInt8), 0, 3, i3))
        else
          (chk .i64 (i3 + 1)).bind fun n86 =>
          (subC a1 i3 n86).bind fun s91 =>
          (cat i2 s91).bind fun s95 =>
          M.ref02_literal_l1 a1 k9 s95 n86
    else
      some (.inr (i2, i3))
def M.ref02_literal (fuel : Nat) (a1 : (List UInt8)) : Option ((List UInt8) × Int × Int × Int) :=
  (M.ref02_literal_l1 a1 fuel ([] : List UInt8) 1).bind fun o => Sum.elim some (fun o4 =>
    if eqI o4.2 (a1.length : Int) then
      some (([] : List UInt8), 0, 4, 0)
    else
      (chk .i64 (o4.2 + 1)).bind fun n106 =>
      some (o4.1, n106, 0, 0)) o
def M.ref02_Symbol_l1 (s1 : (List UInt8)) (l5 : (List (List UInt8))) : Nat → Nat → Option (((List UInt8)) ⊕ (Unit))
  | 0, _ => none
  | k14 + 1, i9 =>
    if ltI ((i9 : Nat) : Int) (l5.length : Int) then
      (l5[i9]?).bind fun x18 =>
      (M.ref02_begins s1 x18).bind fun v20 =>
      if v20 then
        some (.inl x18)
      else
        M.ref02_Symbol_l1 s1 l5 k14 (i9 + 1)
    else
      some (.inr ())
def M.ref02_Symbol (fuel : Nat) (s1 : (List UInt8)) : Option ((List UInt8)) :=
  (M.ref02_begins s1 [40, 42]).bind fun v2 =>
  if v2 then
    some ([] : List UInt8)
  else
    (some [[58, 62], [61, 62], [45, 62], [60, 61], [40], [41], [44], [59], [58], [61], [124], [95], [46], [42], [43], [45], [60], [94], [126]]).bind fun l5 =>
    (M.ref02_Symbol_l1 s1 l5 fuel 0).bind fun o => Sum.elim some (fun o10 =>
      some ([] : List UInt8)) o
def M.ref02_Next_l1 (a1 : (List UInt8)) : Nat → Int → Option (Int)
  | 0, _ => none
  | k82 + 1, i77 =>
    (if ltI i77 (a1.length : Int) then
      (idx a1 i77).bind fun c86 =>
      (M.ref02_Digit c86).bind fun v90 =>
      some v90
    else
      some false : Option Bool).bind fun b94 =>
    if b94 then
      (chk .i64 (i77 + 1)).bind fun n97 =>
      M.ref02_Next_l1 a1 k82 n97
    else
      some i77
def M.ref02_Next (fuel : Nat) (a1 : (List UInt8)) : Option (Api.Token × Int × Int × Int) :=
  (M.ref02_names fuel a1).bind fun v2 =>
  if ltI 0 v2 then
    (subC a1 0 v2).bind fun s6 =>
    (a1[0]?).bind fun c10 =>
    (M.ref02_Small c10).bind fun v12 =>
    if v12 then
      (M.ref02_Word fuel s6).bind fun v15 =>
      if v15 then
        if ltI 24 v2 then
          some ((Api.Token.mk 0 ([] : List UInt8) (Api.Pos.mk 0 0)), 0, 5, 0)
        else
          some ((Api.Token.mk 6 s6 (Api.Pos.mk 0 0)), v2, 0, 0)
      else
        if ltI 24 v2 then
          some ((Api.Token.mk 0 ([] : List UInt8) (Api.Pos.mk 0 0)), 0, 5, 0)
        else
          some ((Api.Token.mk 1 s6 (Api.Pos.mk 0 0)), v2, 0, 0)
    else
      (M.ref02_Word fuel s6).bind fun v25 =>
      if v25 then
        if ltI 24 v2 then
          some ((Api.Token.mk 0 ([] : List UInt8) (Api.Pos.mk 0 0)), 0, 5, 0)
        else
          some ((Api.Token.mk 6 s6 (Api.Pos.mk 0 0)), v2, 0, 0)
      else
        if ltI 24 v2 then
          some ((Api.Token.mk 0 ([] : List UInt8) (Api.Pos.mk 0 0)), 0, 5, 0)
        else
          some ((Api.Token.mk 2 s6 (Api.Pos.mk 0 0)), v2, 0, 0)
  else
    (a1[0]?).bind fun c37 =>
    if eqI (c37.toNat : Int) 39 then
      (subC a1 1 (a1.length : Int)).bind fun s41 =>
      (M.ref02_names fuel s41).bind fun v45 =>
      (if eqI v45 0 then
        some true
      else
        (a1[1]?).bind fun c50 =>
        (M.ref02_Small c50).bind fun v52 =>
        some (!v52) : Option Bool).bind fun b54 =>
      if b54 then
        some ((Api.Token.mk 0 ([] : List UInt8) (Api.Pos.mk 0 0)), 0, 3, 0)
      else
        (chk .i64 (v45 + 1)).bind fun n57 =>
        if ltI 24 n57 then
          some ((Api.Token.mk 0 ([] : List UInt8) (Api.Pos.mk 0 0)), 0, 5, 0)
        else
          (subC a1 0 n57).bind fun s66 =>
          some ((Api.Token.mk 3 s66 (Api.Pos.mk 0 0)), n57, 0, 0)
    else
      (M.ref02_Digit c37).bind fun v74 =>
      if v74 then
        (M.ref02_Next_l1 a1 fuel 0).bind fun o78 =>
        (subC a1 0 o78).bind fun s103 =>
        (M.ref02_Number fuel s103).bind fun v107 =>
        some ((Api.Token.mk 4 s103 (Api.Pos.mk 0 0)), o78, v107, 0)
      else
        if eqI (c37.toNat : Int) 34 then
          (M.ref02_literal fuel a1).bind fun v113 =>
          some ((Api.Token.mk 5 v113.1 (Api.Pos.mk 0 0)), v113.2.1, v113.2.2.1, v113.2.2.2)
        else
          (M.ref02_Symbol fuel a1).bind fun v117 =>
          if !(eqS v117 ([] : List UInt8)) then
            some ((Api.Token.mk 7 v117 (Api.Pos.mk 0 0)), (v117.length : Int), 0, 0)
          else
            some ((Api.Token.mk 0 ([] : List UInt8) (Api.Pos.mk 0 0)), 0, 3, 0)
def M.ref02_Tokens_l1 (fuel : Nat) (a1 : (List UInt8)) : Nat → (List Api.Token) → Int → Option ((List Api.Token) × Api.Pos × Int)
  | 0, _, _ => none
  | k11 + 1, i7, i8 =>
    (subC a1 i8 (a1.length : Int)).bind fun s12 =>
    (M.ref02_Skip fuel s12).bind fun v16 =>
    (chk .i64 (i8 + v16.1)).bind fun n18 =>
    if v16.2 then
      (M.ref02_Place fuel a1 n18).bind fun v24 =>
      some (([] : List Api.Token), v24, 4)
    else
      if eqI n18 (a1.length : Int) then
        (M.ref02_Place fuel a1 n18).bind fun v29 =>
        (app 40 i7 [(Api.Token.mk 8 ([] : List UInt8) v29)]).bind fun l31 =>
        some (l31, (Api.Pos.mk 0 0), 0)
      else
        if eqI (i7.length : Int) 20000 then
          (M.ref02_Place fuel a1 n18).bind fun v39 =>
          some (([] : List Api.Token), v39, 5)
        else
          (subC a1 n18 (a1.length : Int)).bind fun s43 =>
          (M.ref02_Next fuel s43).bind fun v47 =>
          if !(eqI v47.2.2.1 0) then
            (chk .i64 (n18 + v47.2.2.2)).bind fun n52 =>
            (M.ref02_Place fuel a1 n52).bind fun v57 =>
            some (([] : List Api.Token), v57, v47.2.2.1)
          else
            (M.ref02_Place fuel a1 n18).bind fun v62 =>
            (app 40 i7 [(Api.Token.mk v47.1.Kind v47.1.Text v62)]).bind fun l64 =>
            (chk .i64 (n18 + v47.2.1)).bind fun n68 =>
            M.ref02_Tokens_l1 fuel a1 k11 l64 n68
def M.ref02_Tokens (fuel : Nat) (a1 : (List UInt8)) : Option ((List Api.Token) × Api.Pos × Int) :=
  if ltI 16384 (a1.length : Int) then
    some (([] : List Api.Token), (Api.Pos.mk 0 0), 5)
  else
    M.ref02_Tokens_l1 fuel a1 fuel ([] : List Api.Token) 0
def M.ref02_Same_l1 (a1 : (List Api.Token)) (b2 : (List Api.Token)) (at3 : Bool) : Nat → Nat → Option ((Bool) ⊕ (Unit))
  | 0, _ => none
  | k14 + 1, i9 =>
    if ltI ((i9 : Nat) : Int) (a1.length : Int) then
      ((a1[i9]?).bind fun x18 =>
      (b2[i9]?).bind fun x20 =>
      if !(eqI x18.Kind x20.Kind) then
        some true
      else
        if !(eqS x18.Text x20.Text) then
          some true
        else
          if at3 then
            some (!((eqI x18.At.Line x20.At.Line) && (eqI x18.At.Column x20.At.Column)))
          else
            some false : Option Bool).bind fun b31 =>
      if b31 then
        some (.inl false)
      else
        M.ref02_Same_l1 a1 b2 at3 k14 (i9 + 1)
    else
      some (.inr ())
def M.ref02_Same (fuel : Nat) (a1 : (List Api.Token)) (b2 : (List Api.Token)) (at3 : Bool) : Option (Bool) :=
  if !(eqI (a1.length : Int) (b2.length : Int)) then
    some false
  else
    (M.ref02_Same_l1 a1 b2 at3 fuel 0).bind fun o => Sum.elim some (fun o10 =>
      some true) o
def M.law02_LexerTokens (fuel : Nat) (s1 : (List UInt8)) : Option (Bool) :=
  (M.law02_awake fuel).bind fun v2 =>
  if !v2 then
    some false
  else
    (M.law02_long s1).bind fun v7 =>
    if v7 then
      some true
    else
      (M.lexer_Tokens fuel s1).bind fun v10 =>
      (M.ref02_Tokens fuel s1).bind fun v12 =>
      ((M.ref02_Same fuel v10.1 v12.1 true).bind fun v14 =>
      if v14 then
        if (eqI v10.2.1.Line v12.2.1.Line) && (eqI v10.2.1.Column v12.2.1.Column) then
          some (eqI v10.2.2 v12.2.2)
        else
          some false
      else
        some false : Option Bool).bind fun b18 =>
      some b18
def M.lexer_Unquote (fuel : Nat) (s1 : (List UInt8)) : Option ((List UInt8) × Int) :=
  if ltI 32770 (s1.length : Int) then
    some (([] : List UInt8), 5)
  else
    (if eqS s1 ([] : List UInt8) then
      some true
    else
      (s1[0]?).bind fun c8 =>
      some (!(eqI (c8.toNat : Int) 34)) : Option Bool).bind fun b10 =>
    if b10 then
      some (([] : List UInt8), 3)
    else
      (M.lexer_literal fuel s1).bind fun v13 =>
      if (!(eqI v13.2.2.2 0)) || ((!(eqI v13.2.1 (s1.length : Int))) || (ltI 16384 (v13.1.length : Int))) then
        some (([] : List UInt8), 3)
      else
        some (v13.1, 0)
def M.law02_LexerLiterals (fuel : Nat) (a1 : (List UInt8)) : Option (Bool) :=
  (M.law02_awake fuel).bind fun v2 =>
  if !v2 then
    some false
  else
    if ltI 1500 (a1.length : Int) then
      some true
    else
      (M.lexer_Quote fuel a1).bind fun v12 =>
      if eqI v12.2 0 then
        (M.lexer_Unquote fuel v12.1).bind fun v16 =>
        (M.lexer_Tokens fuel v12.1).bind fun v18 =>
        (if !(eqI v16.2 0) then
          some true
        else
          if !(eqS v16.1 a1) then
            some true
          else
            if !(eqI v18.2.2 0) then
              some true
            else
              if !(eqI (v18.1.length : Int) 2) then
                some true
              else
                (v18.1[0]?).bind fun x38 =>
                if !(eqI x38.Kind 5) then
                  some true
                else
                  some (!(eqS x38.Text a1)) : Option Bool).bind fun b45 =>
        if b45 then
          some false
        else
          (M.lexer_Unquote fuel a1).bind fun v48 =>
          if !(eqI v48.2 0) then
            some (eqS v48.1 ([] : List UInt8))
          else
            (M.lexer_Quote fuel v48.1).bind fun v55 =>
            some ((eqI v55.2 0) && (eqS v55.1 a1))
      else
        (M.lexer_Unquote fuel a1).bind fun v65 =>
        if !(eqI v65.2 0) then
          some (eqS v65.1 ([] : List UInt8))
        else
          (M.lexer_Quote fuel v65.1).bind fun v72 =>
          some ((eqI v72.2 0) && (eqS v72.1 a1))
def M.law02_many_1 (t1 : Api.Token) : Option (Bool) :=
  some (if ltI 300 (t1.Text.length : Int) then (leI (t1.Text.length : Int) 16384) || (ltI 17000 (t1.Text.length : Int)) else ltI 17000 (t1.Text.length : Int))
def M.slices_IndexFunc_api_Token_many_1_l1 (s1 : (List Api.Token)) : Nat → Nat → Option ((Int) ⊕ (Unit))
  | 0, _ => none
  | k7 + 1, i2 =>
    if ltI ((i2 : Nat) : Int) (s1.length : Int) then
      (s1[i2]?).bind fun x11 =>
      (M.law02_many_1 x11).bind fun v13 =>
      if v13 then
        some (.inl ((i2 : Nat) : Int))
      else
        M.slices_IndexFunc_api_Token_many_1_l1 s1 k7 (i2 + 1)
    else
      some (.inr ())
def M.slices_IndexFunc_api_Token_many_1 (fuel : Nat) (s1 : (List Api.Token)) : Option (Int) :=
  (M.slices_IndexFunc_api_Token_many_1_l1 s1 fuel 0).bind fun o => Sum.elim some (fun o3 =>
    some (-1)) o
def M.slices_ContainsFunc_api_Token_many_1 (fuel : Nat) (s1 : (List Api.Token)) : Option (Bool) :=
  (M.slices_IndexFunc_api_Token_many_1 fuel s1).bind fun v2 =>
  some (leI 0 v2)
def M.law02_many (fuel : Nat) (l1 : (List Api.Token)) : Option (Bool) :=
  (if ltI 60 (l1.length : Int) then
    if leI (l1.length : Int) 20000 then
      some true
    else
      if ltI 20100 (l1.length : Int) then
        some true
      else
        (M.slices_ContainsFunc_api_Token_many_1 fuel l1).bind fun v11 =>
        some v11
  else
    if ltI 20100 (l1.length : Int) then
      some true
    else
      (M.slices_ContainsFunc_api_Token_many_1 fuel l1).bind fun v18 =>
      some v18 : Option Bool).bind fun b20 =>
  some b20
def M.lexer_written (fuel : Nat) (a1 : Api.Token) : Option ((List UInt8) × Bool) :=
  if eqI a1.Kind 5 then
    (M.lexer_Quote fuel a1.Text).bind fun v4 =>
    some (v4.1, eqI v4.2 0)
  else
    if eqI a1.Kind 7 then
      (M.lexer_Symbol fuel a1.Text).bind fun v10 =>
      some (a1.Text, v10.2 && (eqS v10.1 a1.Text))
    else
      if eqI a1.Kind 1 then
        if eqS a1.Text ([] : List UInt8) then
          some (([] : List UInt8), false)
        else
          (M.lexer_scanner_token fuel (Lexer.scanner.mk a1.Text 0)).bind fun v18 =>
          some (a1.Text, (eqI v18.2.2.1 0) && ((eqI v18.1.Kind a1.Kind) && (eqI v18.2.2.2.at_ (a1.Text.length : Int))))
      else
        if eqI a1.Kind 2 then
          if eqS a1.Text ([] : List UInt8) then
            some (([] : List UInt8), false)
          else
            (M.lexer_scanner_token fuel (Lexer.scanner.mk a1.Text 0)).bind fun v31 =>
            some (a1.Text, (eqI v31.2.2.1 0) && ((eqI v31.1.Kind a1.Kind) && (eqI v31.2.2.2.at_ (a1.Text.length : Int))))
        else
          if eqI a1.Kind 3 then
            if eqS a1.Text ([] : List UInt8) then
              some (([] : List UInt8), false)
            else
              (M.lexer_scanner_token fuel (Lexer.scanner.mk a1.Text 0)).bind fun v44 =>
              some (a1.Text, (eqI v44.2.2.1 0) && ((eqI v44.1.Kind a1.Kind) && (eqI v44.2.2.2.at_ (a1.Text.length : Int))))
          else
            if eqI a1.Kind 4 then
              if eqS a1.Text ([] : List UInt8) then
                some (([] : List UInt8), false)
              else
                (M.lexer_scanner_token fuel (Lexer.scanner.mk a1.Text 0)).bind fun v57 =>
                some (a1.Text, (eqI v57.2.2.1 0) && ((eqI v57.1.Kind a1.Kind) && (eqI v57.2.2.2.at_ (a1.Text.length : Int))))
            else
              if eqI a1.Kind 6 then
                if eqS a1.Text ([] : List UInt8) then
                  some (([] : List UInt8), false)
                else
                  (M.lexer_scanner_token fuel (Lexer.scanner.mk a1.Text 0)).bind fun v70 =>
                  some (a1.Text, (eqI v70.2.2.1 0) && ((eqI v70.1.Kind a1.Kind) && (eqI v70.2.2.2.at_ (a1.Text.length : Int))))
              else
                some (([] : List UInt8), false)
def M.lexer_Join_1 (fuel : Nat) (t1 : Api.Token) (c2 : (List (List UInt8))) : Option (Bool × (List (List UInt8))) :=
  (M.lexer_written fuel t1).bind fun v3 =>
  (app 16 c2 [v3.1]).bind fun l5 =>
  some (!v3.2, l5)
def M.slices_IndexFunc_api_Token_Join_1_l1 (fuel : Nat) (s1 : (List Api.Token)) : Nat → (List (List UInt8)) → Nat → Option ((Int × (List (List UInt8))) ⊕ ((List (List UInt8))))
  | 0, _, _ => none
  | k9 + 1, a3, i4 =>
    if ltI ((i4 : Nat) : Int) (s1.length : Int) then
      (s1[i4]?).bind fun x13 =>
      (M.lexer_Join_1 fuel x13 a3).bind fun v15 =>
      if v15.1 then
        some (.inl (((i4 : Nat) : Int), v15.2))
      else
        M.slices_IndexFunc_api_Token_Join_1_l1 fuel s1 k9 v15.2 (i4 + 1)
    else
      some (.inr a3)
def M.slices_IndexFunc_api_Token_Join_1 (fuel : Nat) (s1 : (List Api.Token)) (c2 : (List (List UInt8))) : Option (Int × (List (List UInt8))) :=
  (M.slices_IndexFunc_api_Token_Join_1_l1 fuel s1 fuel c2 0).bind fun o => Sum.elim some (fun o5 =>
    some ((-1), o5)) o
def M.slices_ContainsFunc_api_Token_Join_1 (fuel : Nat) (s1 : (List Api.Token)) (c2 : (List (List UInt8))) : Option (Bool × (List (List UInt8))) :=
  (M.slices_IndexFunc_api_Token_Join_1 fuel s1 c2).bind fun v3 =>
  some (leI 0 v3.1, v3.2)
def M.strings_Join (l : List (List UInt8)) (s : List UInt8) : Option (List UInt8) := if l.length ≤ 140737488355328 ∧ (Lib.join l s).length ≤ 140737488355328 then some (Lib.join l s) else none
def M.lexer_Join (fuel : Nat) (l1 : (List Api.Token)) : Option ((List UInt8) × Int) :=
  (if ltI 0 (l1.length : Int) then
    (idx l1 ((l1.length : Int) - 1)).bind fun x6 =>
    if eqI x6.Kind 8 then
      some (eqS x6.Text ([] : List UInt8))
    else
      some false
  else
    some false : Option Bool).bind fun b16 =>
  if b16 then
    (chk .i64 ((l1.length : Int) - 1)).bind fun n19 =>
    (subC l1 0 n19).bind fun l24 =>
    if ltI 20000 (l24.length : Int) then
      some (([] : List UInt8), 5)
    else
      (mkC 16 (l24.length : Int)).bind fun u33 =>
      (M.slices_ContainsFunc_api_Token_Join_1 fuel l24 ([] : List (List UInt8))).bind fun v37 =>
      if v37.1 then
        some (([] : List UInt8), 3)
      else
        (M.strings_Join v37.2 [32]).bind fun v40 =>
        if ltI 16384 (v40.length : Int) then
          some (([] : List UInt8), 5)
        else
          some (v40, 0)
  else
    if ltI 20000 (l1.length : Int) then
      some (([] : List UInt8), 5)
    else
      (mkC 16 (l1.length : Int)).bind fun u54 =>
      (M.slices_ContainsFunc_api_Token_Join_1 fuel l1 ([] : List (List UInt8))).bind fun v58 =>
      if v58.1 then
        some (([] : List UInt8), 3)
      else
        (M.strings_Join v58.2 [32]).bind fun v61 =>
        if ltI 16384 (v61.length : Int) then
          some (([] : List UInt8), 5)
        else
          some (v61, 0)
def M.ref02_Plain_l1 (s1 : (List UInt8)) : Nat → Nat → Option ((Bool) ⊕ (Unit))
  | 0, _ => none
  | k7 + 1, i2 =>
    if ltI ((i2 : Nat) : Int) (s1.length : Int) then
      ((s1[i2]?).bind fun c11 =>
      if ltI (c11.toNat : Int) 32 then
        some (!(eqI (c11.toNat : Int) 10))
      else
        if ltI 126 (c11.toNat : Int) then
          some (!(eqI (c11.toNat : Int) 10))
        else
          some false : Option Bool).bind fun b19 =>
      if b19 then
        some (.inl false)
      else
        M.ref02_Plain_l1 s1 k7 (i2 + 1)
    else
      some (.inr ())
def M.ref02_Plain (fuel : Nat) (s1 : (List UInt8)) : Option (Bool) :=
  (M.ref02_Plain_l1 s1 fuel 0).bind fun o => Sum.elim some (fun o3 =>
    some true) o
def M.ref02_Right (fuel : Nat) (t1 : Api.Token) : Option (Bool) :=
  if eqI t1.Kind 5 then
    (if leI (t1.Text.length : Int) 16384 then
      (M.ref02_Plain fuel t1.Text).bind fun v7 =>
      some v7
    else
      some false : Option Bool).bind fun b11 =>
    some b11
  else
    (if eqS t1.Text ([] : List UInt8) then
      some true
    else
      if eqI t1.Kind 8 then
        some true
      else
        (t1.Text[0]?).bind fun c19 =>
        some (eqI (c19.toNat : Int) 34) : Option Bool).bind fun b21 =>
    if b21 then
      some false
    else
      (M.ref02_Next fuel t1.Text).bind fun v24 =>
      some ((eqI v24.2.2.1 0) && ((eqI v24.2.1 (t1.Text.length : Int)) && (eqI v24.1.Kind t1.Kind)))
def M.ref02_Quote_l1 (s1 : (List UInt8)) : Nat → (List UInt8) → Nat → Option ((List UInt8))
  | 0, _, _ => none
  | k7 + 1, out2, i3 =>
    if ltI ((i3 : Nat) : Int) (s1.length : Int) then
      (s1[i3]?).bind fun c11 =>
      if eqI (c11.toNat : Int) 34 then
        (cat out2 [92, 34]).bind fun s15 =>
        M.ref02_Quote_l1 s1 k7 s15 (i3 + 1)
      else
        if eqI (c11.toNat : Int) 92 then
          (cat out2 [92, 92]).bind fun s23 =>
          M.ref02_Quote_l1 s1 k7 s23 (i3 + 1)
        else
          if eqI (c11.toNat : Int) 10 then
            (cat out2 [92, 110]).bind fun s31 =>
            M.ref02_Quote_l1 s1 k7 s31 (i3 + 1)
          else
            (subC s1 ((i3 : Nat) : Int) ((i3 + 1 : Nat) : Int)).bind fun s38 =>
            (cat out2 s38).bind fun s42 =>
            M.ref02_Quote_l1 s1 k7 s42 (i3 + 1)
    else
      some out2
def M.ref02_Quote (fuel : Nat) (s1 : (List UInt8)) : Option ((List UInt8)) :=
  (M.ref02_Quote_l1 s1 fuel [34] 0).bind fun o4 =>
  (cat o4 [34]).bind fun s50 =>
  some s50
def M.ref02_Join_l2 (fuel : Nat) (a1 : (List Api.Token)) (n19 : Int) : Nat → (List UInt8) → Nat → Option ((List UInt8))
  | 0, _, _ => none
  | k51 + 1, i46, i47 =>
    if (ltI ((i47 : Nat) : Int) n19) && (leI (i46.length : Int) 16384) then
      if ltI 0 ((i47 : Nat) : Int) then
        (cat i46 [32]).bind fun s63 =>
        (a1[i47]?).bind fun x67 =>
        if eqI x67.Kind 5 then
          (M.ref02_Quote fuel x67.Text).bind fun v71 =>
          (cat s63 v71).bind fun s73 =>
          M.ref02_Join_l2 fuel a1 n19 k51 s73 (i47 + 1)
        else
          (cat s63 x67.Text).bind fun s80 =>
          M.ref02_Join_l2 fuel a1 n19 k51 s80 (i47 + 1)
      else
        (a1[i47]?).bind fun x86 =>
        if eqI x86.Kind 5 then
          (M.ref02_Quote fuel x86.Text).bind fun v90 =>
          (cat i46 v90).bind fun s92 =>
          M.ref02_Join_l2 fuel a1 n19 k51 s92 (i47 + 1)
        else
          (cat i46 x86.Text).bind fun s99 =>
          M.ref02_Join_l2 fuel a1 n19 k51 s99 (i47 + 1)
    else
      some i46
def M.ref02_Join_l1 (fuel : Nat) (a1 : (List Api.Token)) (n19 : Int) : Nat → Nat → Option (((List UInt8) × Int) ⊕ (Unit))
  | 0, _ => none
  | k32 + 1, i27 =>
    if ltI ((i27 : Nat) : Int) n19 then
      (a1[i27]?).bind fun x35 =>
      (M.ref02_Right fuel x35).bind fun v37 =>
      if !v37 then
        some (.inl (([] : List UInt8), 3))
      else
        M.ref02_Join_l1 fuel a1 n19 k32 (i27 + 1)
    else
      some (.inr ())
def M.ref02_Join_l4 (fuel : Nat) (a1 : (List Api.Token)) : Nat → (List UInt8) → Nat → Option ((List UInt8))
  | 0, _, _ => none
  | k139 + 1, i134, i135 =>
    if (ltI ((i135 : Nat) : Int) (a1.length : Int)) && (leI (i134.length : Int) 16384) then
      if ltI 0 ((i135 : Nat) : Int) then
        (cat i134 [32]).bind fun s151 =>
        (a1[i135]?).bind fun x155 =>
        if eqI x155.Kind 5 then
          (M.ref02_Quote fuel x155.Text).bind fun v159 =>
          (cat s151 v159).bind fun s161 =>
          M.ref02_Join_l4 fuel a1 k139 s161 (i135 + 1)
        else
          (cat s151 x155.Text).bind fun s168 =>
          M.ref02_Join_l4 fuel a1 k139 s168 (i135 + 1)
      else
        (a1[i135]?).bind fun x174 =>
        if eqI x174.Kind 5 then
          (M.ref02_Quote fuel x174.Text).bind fun v178 =>
          (cat i134 v178).bind fun s180 =>
          M.ref02_Join_l4 fuel a1 k139 s180 (i135 + 1)
        else
          (cat i134 x174.Text).bind fun s187 =>
          M.ref02_Join_l4 fuel a1 k139 s187 (i135 + 1)
    else
      some i134
def M.ref02_Join_l3 (fuel : Nat) (a1 : (List Api.Token)) : Nat → Nat → Option (((List UInt8) × Int) ⊕ (Unit))
  | 0, _ => none
  | k120 + 1, i115 =>
    if ltI ((i115 : Nat) : Int) (a1.length : Int) then
      (a1[i115]?).bind fun x123 =>
      (M.ref02_Right fuel x123).bind fun v125 =>
      if !v125 then
        some (.inl (([] : List UInt8), 3))
      else
        M.ref02_Join_l3 fuel a1 k120 (i115 + 1)
    else
      some (.inr ())
def M.ref02_Join (fuel : Nat) (a1 : (List Api.Token)) : Option ((List UInt8) × Int) :=
  (if ltI 0 (a1.length : Int) then
    (idx a1 ((a1.length : Int) - 1)).bind fun x6 =>
    if eqI x6.Kind 8 then
      some (eqS x6.Text ([] : List UInt8))
    else
      some false
  else
    some false : Option Bool).bind fun b16 =>
  if b16 then
    (chk .i64 ((a1.length : Int) - 1)).bind fun n19 =>
    if ltI 20000 n19 then
      some (([] : List UInt8), 5)
    else
      (M.ref02_Join_l1 fuel a1 n19 fuel 0).bind fun o => Sum.elim some (fun o28 =>
        (M.ref02_Join_l2 fuel a1 n19 fuel ([] : List UInt8) 0).bind fun o48 =>
        if ltI 16384 (o48.length : Int) then
          some (([] : List UInt8), 5)
        else
          some (o48, 0)) o
  else
    if ltI 20000 (a1.length : Int) then
      some (([] : List UInt8), 5)
    else
      (M.ref02_Join_l3 fuel a1 fuel 0).bind fun o => Sum.elim some (fun o116 =>
        (M.ref02_Join_l4 fuel a1 fuel ([] : List UInt8) 0).bind fun o136 =>
        if ltI 16384 (o136.length : Int) then
          some (([] : List UInt8), 5)
        else
          some (o136, 0)) o
def M.law02_LexerJoins (fuel : Nat) (l1 : (List Api.Token)) : Option (Bool) :=
  (M.law02_awake fuel).bind fun v2 =>
  if !v2 then
    some false
  else
    (M.law02_many fuel l1).bind fun v7 =>
    if v7 then
      some true
    else
      (M.lexer_Join fuel l1).bind fun v10 =>
      (M.ref02_Join fuel l1).bind fun v12 =>
      some ((eqS v10.1 v12.1) && (eqI v10.2 v12.2))
def M.law02_LexerBack_1 (fuel : Nat) (a1 : (List Api.Token)) : Option (Bool) :=
  (M.lexer_Join fuel a1).bind fun v2 =>
  if !(eqI v2.2 0) then
    some (eqS v2.1 ([] : List UInt8))
  else
    (M.lexer_Tokens fuel v2.1).bind fun v9 =>
    (if !(eqI v9.2.2 0) then
      some true
    else
      if eqI (v9.1.length : Int) 0 then
        some true
      else
        (chk .i64 ((v9.1.length : Int) - 1)).bind fun n19 =>
        (idx v9.1 n19).bind fun x24 =>
        some (!(eqI x24.Kind 8)) : Option Bool).bind fun b28 =>
    if b28 then
      some false
    else
      (if ltI 0 (a1.length : Int) then
        (idx a1 ((a1.length : Int) - 1)).bind fun x35 =>
        some (eqI x35.Kind 8)
      else
        some false : Option Bool).bind fun b41 =>
      if b41 then
        (chk .i64 ((a1.length : Int) - 1)).bind fun n44 =>
        (subC a1 0 n44).bind fun l49 =>
        (chk .i64 ((v9.1.length : Int) - 1)).bind fun n53 =>
        (subC v9.1 0 n53).bind fun l58 =>
        (M.ref02_Same fuel l49 l58 false).bind fun v62 =>
        some v62
      else
        (chk .i64 ((v9.1.length : Int) - 1)).bind fun n65 =>
        (subC v9.1 0 n65).bind fun l70 =>
        (M.ref02_Same fuel a1 l70 false).bind fun v74 =>
        some v74
def M.law02_LexerBack (fuel : Nat) (l1 : (List Api.Token)) (s2 : (List UInt8)) : Option (Bool) :=
  (M.law02_awake fuel).bind fun v3 =>
  if !v3 then
    some false
  else
    ((M.law02_many fuel l1).bind fun v8 =>
    if v8 then
      some true
    else
      (M.law02_long s2).bind fun v11 =>
      some v11 : Option Bool).bind fun b13 =>
    if b13 then
      some true
    else
      (M.law02_LexerBack_1 fuel l1).bind fun v16 =>
      if !v16 then
        some false
      else
        (M.lexer_Tokens fuel s2).bind fun v21 =>
        (if !(eqI v21.2.2 0) then
          if eqI (v21.1.length : Int) 0 then
            some true
          else
            some false
        else
          (M.law02_LexerBack_1 fuel v21.1).bind fun v31 =>
          some v31 : Option Bool).bind fun b33 =>
        some b33
def M.slices_Concat_api_Token_l2 (slices1 : (List (List Api.Token))) : Nat → (List Api.Token) → Nat → Option ((List Api.Token))
  | 0, _, _ => none
  | k35 + 1, newslice30, i31 =>
    if ltI ((i31 : Nat) : Int) (slices1.length : Int) then
      (slices1[i31]?).bind fun x39 =>
      (app 40 newslice30 x39).bind fun l41 =>
      M.slices_Concat_api_Token_l2 slices1 k35 l41 (i31 + 1)
    else
      some newslice30
def M.slices_Concat_api_Token_l1 (slices1 : (List (List Api.Token))) : Nat → Int → Nat → Option (Int)
  | 0, _, _ => none
  | k8 + 1, size2, i3 =>
    if ltI ((i3 : Nat) : Int) (slices1.length : Int) then
      (slices1[i3]?).bind fun x12 =>
      (chk .i64 (size2 + (x12.length : Int))).bind fun n14 =>
      if ltI n14 0 then
        none
      else
        M.slices_Concat_api_Token_l1 slices1 k8 n14 (i3 + 1)
    else
      some size2
def M.slices_Concat_api_Token (fuel : Nat) (slices1 : (List (List Api.Token))) : Option ((List Api.Token)) :=
  (M.slices_Concat_api_Token_l1 slices1 fuel 0 0).bind fun o4 =>
  (growC 40 o4).bind fun u26 =>
  (M.slices_Concat_api_Token_l2 slices1 fuel ([] : List Api.Token) 0).bind fun o32 =>
  some o32
def M.strings_Contains (s t : List UInt8) : Option Bool := match t with
  | [c] => some (decide (0 ≤ Lib.indexByte s c))
  | _ => none
def M.law02_LexerBlanks (fuel : Nat) (a1 : (List UInt8)) (a2 : (List UInt8)) (a3 : UInt8) : Option (Bool) :=
  (M.law02_awake fuel).bind fun v4 =>
  if !v4 then
    some false
  else
    if (ltI 600 (a1.length : Int)) || (ltI 600 (a2.length : Int)) then
      some true
    else
      (M.lexer_Tokens fuel a1).bind fun v21 =>
      (M.lexer_Tokens fuel a2).bind fun v23 =>
      if (!(eqI v21.2.2 0)) || ((!(eqI v23.2.2 0)) || ((eqI (v21.1.length : Int) 0) || (eqI (v23.1.length : Int) 0))) then
        some (if !(eqI v21.2.2 0) then (eqI (v21.1.length : Int) 0) || ((!(eqI v23.2.2 0)) && (eqI (v23.1.length : Int) 0)) else (!(eqI v23.2.2 0)) && (eqI (v23.1.length : Int) 0))
      else
        (some [[32], [10], [9, 10, 32], [32, 40, 42, 42, 41, 32], [40, 42, 32, 97, 32, 40, 42, 32, 34, 98, 32, 42, 41, 32, 39, 32, 42, 41], [40, 42, 42, 42, 41]]).bind fun l69 =>
        (idx l69 (Int.tmod (a3.toNat : Int) 6)).bind fun x75 =>
        (cat a1 x75).bind fun s80 =>
        (cat s80 a2).bind fun s84 =>
        (M.lexer_Tokens fuel s84).bind fun v88 =>
        (if !(eqI v88.2.2 0) then
          some true
        else
          (chk .i64 ((v21.1.length : Int) - 1)).bind fun n95 =>
          (subC v21.1 0 n95).bind fun l100 =>
          (M.slices_Concat_api_Token fuel [l100, v23.1]).bind fun v104 =>
          (M.ref02_Same fuel v88.1 v104 false).bind fun v106 =>
          some (!v106) : Option Bool).bind fun b108 =>
        if b108 then
          some false
        else
          ((M.strings_Contains a1 [40]).bind fun v111 =>
          if v111 then
            some true
          else
            (M.strings_Contains a1 [42]).bind fun v114 =>
            if v114 then
              some true
            else
              (M.strings_Contains a1 [41]).bind fun v117 =>
              some v117 : Option Bool).bind fun b119 =>
          if b119 then
            some true
          else
            (cat [40, 42, 32] a1).bind fun s122 =>
            (cat s122 [32, 42, 41]).bind fun s126 =>
            (M.lexer_Tokens fuel s126).bind fun v130 =>
            (if eqI v130.2.2 0 then
              if eqI (v130.1.length : Int) 1 then
                (v130.1[0]?).bind fun x136 =>
                some (eqI x136.Kind 8)
              else
                some false
            else
              some false : Option Bool).bind fun b140 =>
            some b140
end Go.Proofs.YthbjlmoaceaeeaaDoor
