/- For every input the law PrinterUnits returns true. Part 11 of 16. No condition. -/
import Derived.Test.YtlhikhaailhoaaaGreatDoorPUj
set_option linter.unusedVariables false
set_option linter.unnecessarySimpa false
set_option linter.unusedSimpArgs false
set_option maxRecDepth 100000
set_option maxHeartbeats 1000000
namespace Go.Proofs.YtlhikhaailhoaaaGreatDoor
open Go Go.Abs
theorem zDK (fuel : Nat) : (∀ (t1 : zJC) (w2 : zI9) (r : zI9) (_ : zBN fuel t1 w2 = some r), Raw Tryz.prog 130 [.mptr 0 0, .agg t1.d] [[.osl ⟨1, 9⟩ (w2.tokens.map cS)]] (.tup []) [[.osl ⟨1, 9⟩ (r.tokens.map cS)]]) ∧ (∀ (t1 : zJC) (w2 : zI9) (r : zI9) (_ : zAY fuel t1 w2 = some r), Raw Tryz.prog 118 [.mptr 0 0, .agg t1.d] [[.osl ⟨1, 9⟩ (w2.tokens.map cS)]] (.tup []) [[.osl ⟨1, 9⟩ (r.tokens.map cS)]]) ∧ (∀ (t1 : zJC) (w2 : zI9) (r : zI9) (_ : zBw fuel t1 w2 = some r), Raw Tryz.prog 117 [.mptr 0 0, .agg t1.d] [[.osl ⟨1, 9⟩ (w2.tokens.map cS)]] (.tup []) [[.osl ⟨1, 9⟩ (r.tokens.map cS)]]) ∧ (∀ (t1 : zJC) (w2 : zI9) (r : zI9) (_ : zAT fuel t1 w2 = some r), Raw Tryz.prog 98 [.mptr 0 0, .agg t1.d] [[.osl ⟨1, 9⟩ (w2.tokens.map cS)]] (.tup []) [[.osl ⟨1, 9⟩ (r.tokens.map cS)]]) ∧ (∀ (t1 : zJC) (w2 : zI9) (r : zI9) (_ : zAd fuel t1 w2 = some r), Raw Tryz.prog 97 [.mptr 0 0, .agg t1.d] [[.osl ⟨1, 9⟩ (w2.tokens.map cS)]] (.tup []) [[.osl ⟨1, 9⟩ (r.tokens.map cS)]]) ∧ (∀ (t1 : zJC) (w2 : zI9) (r : zI9) (_ : zAI fuel t1 w2 = some r), Raw Tryz.prog 65 [.mptr 0 0, .agg t1.d] [[.osl ⟨1, 9⟩ (w2.tokens.map cS)]] (.tup []) [[.osl ⟨1, 9⟩ (r.tokens.map cS)]]) ∧ (∀ (l1 : (List zJC)) (level2 : Int) (between3 : (List UInt8)) (w4 : zI9) (r : zI9) (_ : zAl fuel l1 level2 between3 w4 = some r), Raw Tryz.prog 61 [.mptr 0 0, .sl (l1.map zJC.c), .int .i64 level2, .str between3] [[.osl ⟨1, 9⟩ (w4.tokens.map cS)]] (.tup []) [[.osl ⟨1, 9⟩ (r.tokens.map cS)]]) ∧ (∀ (t1 : zJC) (level2 : Int) (w3 : zI9) (r : zI9) (_ : zAK fuel t1 level2 w3 = some r), Raw Tryz.prog 60 [.mptr 0 0, .agg t1.d, .int .i64 level2] [[.osl ⟨1, 9⟩ (w3.tokens.map cS)]] (.tup []) [[.osl ⟨1, 9⟩ (r.tokens.map cS)]]) ∧ (∀ (t1 : zJC) (w2 : zI9) (r : zI9) (_ : zAH fuel t1 w2 = some r), Raw Tryz.prog 38 [.mptr 0 0, .agg t1.d] [[.osl ⟨1, 9⟩ (w2.tokens.map cS)]] (.tup []) [[.osl ⟨1, 9⟩ (r.tokens.map cS)]]) := by
 induction fuel with
 | zero =>
  refine ⟨?_, ?_, ?_, ?_, ?_, ?_, ?_, ?_, ?_⟩
  ·intro t1 w2 r h; rw [zBN] at h; cases h
  ·intro t1 w2 r h; rw [zAY] at h; cases h
  ·intro t1 w2 r h; rw [zBw] at h; cases h
  ·intro t1 w2 r h; rw [zAT] at h; cases h
  ·intro t1 w2 r h; rw [zAd] at h; cases h
  ·intro t1 w2 r h; rw [zAI] at h; cases h
  ·intro l1 level2 between3 w4 r h; rw [zAl] at h; cases h
  ·intro t1 level2 w3 r h; rw [zAK] at h; cases h
  ·intro t1 w2 r h; rw [zAH] at h; cases h
 | succ fuel ih =>
  obtain ⟨zEN, zFH, zEg, zFg, zFI, zFD, zBF, zAL, zE0⟩ := ih
  refine ⟨?_, ?_, ?_, ?_, ?_, ?_, ?_, ?_, ?_⟩
  ·intro t1 w2 r h
   rw [zBN] at h
   refine zA6 Tryz.func130 (by rfl) (by rfl) (by simp) (by simp) <| cutA 33 1 [(0, .mptr 0 0), (3, .mptr 1 0)] [[.osl ⟨1, 9⟩ (w2.tokens.map cS)], t1.d] <| zAM <| cutA 33 1 [(0, .mptr 0 0), (3, .mptr 1 0), (6, .bool (eqI t1.N 1))] [[.osl ⟨1, 9⟩ (w2.tokens.map cS)], t1.d] <| spc h rfl (fun g3 h => ?_) fun g3 h => ?_
   ·obtain ⟨v5, q6, h⟩ := bs h
    refine last 33 1 [(0, .mptr 0 0), (3, .mptr 1 0)] [[.osl ⟨1, 9⟩ (v5.tokens.map cS)], t1.d] ?_ fun zz hs => ?_
    ·refine st ?_
     simp
     have r27 := (zAC [[102, 117, 110, 99, 116, 111, 114]] w2 v5 q6).frame [0] [[.osl ⟨1, 9⟩ (w2.tokens.map cS)], t1.d] (by simp)
     try simp at r27
     refine zAR r27 (by simp) rfl ?_
     simp
    refine zBT ?_ hs
    obtain ⟨v7, q8, h⟩ := bs h
    refine cut 33 1 [(0, .mptr 0 0), (3, .mptr 1 0)] [[.osl ⟨1, 9⟩ (v7.tokens.map cS)], t1.d] ?_ ?_
    ·refine st ?_
     simp
     have r26 := (zAC [[40], t1.S, [58]] v5 v7 q8).frame [0] [[.osl ⟨1, 9⟩ (v5.tokens.map cS)], t1.d] (by simp)
     try simp at r26
     refine zAR r26 (by simp) rfl ?_
     simp
    obtain ⟨x9, q10, h⟩ := bs h
    obtain ⟨v11, q12, h⟩ := bs h
    refine cut 33 1 [(0, .mptr 0 0), (3, .mptr 1 0)] [[.osl ⟨1, 9⟩ (v11.tokens.map cS)], t1.d] ?_ ?_
    ·refine st ?_
     simp [q10]
     have r25 := (zAL x9 0 v7 v11 q12).frame [0] [[.osl ⟨1, 9⟩ (v7.tokens.map cS)], t1.d] (by simp)
     try simp [q10] at r25
     refine zAR r25 (by simp [q10]) rfl ?_
     simp [q10]
    obtain ⟨l13, q14, h⟩ := bs h
    obtain ⟨q15, q16⟩ := zD6 q14
    obtain ⟨v17, q18, h⟩ := bs h
    refine cut 33 1 [(0, .mptr 0 0), (3, .mptr 1 0)] [[.osl ⟨1, 9⟩ (v17.tokens.map cS)], t1.d] ?_ ?_
    ·refine st ?_
     simp [q15, q16]
     have r24 := (zAC l13 v11 v17 q18).frame [0] [[.osl ⟨1, 9⟩ (v11.tokens.map cS)], t1.d] (by simp)
     try simp [q15, q16] at r24
     refine zAR r24 (by simp [q15, q16]) rfl ?_
     simp [q15, q16]
    obtain ⟨x19, q20, h⟩ := bs h
    obtain ⟨v21, q22, h⟩ := bs h
    obtain rfl := oi h
    refine st ?_
    simp [q20]
    have r23 := (zAL x19 0 v17 v21 q22).frame [0] [[.osl ⟨1, 9⟩ (v17.tokens.map cS)], t1.d] (by simp)
    try simp [q20] at r23
    refine zAR r23 (by simp [q20]) rfl ?_
    simp [q20]
   obtain ⟨v29, q30, h⟩ := bs h
   refine last 33 1 [(0, .mptr 0 0), (3, .mptr 1 0)] [[.osl ⟨1, 9⟩ (v29.tokens.map cS)], t1.d] ?_ fun zz hs => ?_
   ·refine st ?_
    simp
    have r51 := (zAC [[103, 101, 110, 101, 114, 97, 116, 105, 118, 101]] w2 v29 q30).frame [0] [[.osl ⟨1, 9⟩ (w2.tokens.map cS)], t1.d] (by simp)
    try simp at r51
    refine zAR r51 (by simp) rfl ?_
    simp
   refine zBT ?_ hs
   obtain ⟨v31, q32, h⟩ := bs h
   refine cut 33 1 [(0, .mptr 0 0), (3, .mptr 1 0)] [[.osl ⟨1, 9⟩ (v31.tokens.map cS)], t1.d] ?_ ?_
   ·refine st ?_
    simp
    have r50 := (zAC [[40], t1.S, [58]] v29 v31 q32).frame [0] [[.osl ⟨1, 9⟩ (v29.tokens.map cS)], t1.d] (by simp)
    try simp at r50
    refine zAR r50 (by simp) rfl ?_
    simp
   obtain ⟨x33, q34, h⟩ := bs h
   obtain ⟨v35, q36, h⟩ := bs h
   refine cut 33 1 [(0, .mptr 0 0), (3, .mptr 1 0)] [[.osl ⟨1, 9⟩ (v35.tokens.map cS)], t1.d] ?_ ?_
   ·refine st ?_
    simp [q34]
    have r49 := (zAL x33 0 v31 v35 q36).frame [0] [[.osl ⟨1, 9⟩ (v31.tokens.map cS)], t1.d] (by simp)
    try simp [q34] at r49
    refine zAR r49 (by simp [q34]) rfl ?_
    simp [q34]
   obtain ⟨l37, q38, h⟩ := bs h
   obtain ⟨q39, q40⟩ := zD6 q38
   obtain ⟨v41, q42, h⟩ := bs h
   refine cut 33 1 [(0, .mptr 0 0), (3, .mptr 1 0)] [[.osl ⟨1, 9⟩ (v41.tokens.map cS)], t1.d] ?_ ?_
   ·refine st ?_
    simp [q39, q40]
    have r48 := (zAC l37 v35 v41 q42).frame [0] [[.osl ⟨1, 9⟩ (v35.tokens.map cS)], t1.d] (by simp)
    try simp [q39, q40] at r48
    refine zAR r48 (by simp [q39, q40]) rfl ?_
    simp [q39, q40]
   obtain ⟨x43, q44, h⟩ := bs h
   obtain ⟨v45, q46, h⟩ := bs h
   obtain rfl := oi h
   refine st ?_
   simp [q44]
   have r47 := (zAL x43 0 v41 v45 q46).frame [0] [[.osl ⟨1, 9⟩ (v41.tokens.map cS)], t1.d] (by simp)
   try simp [q44] at r47
   refine zAR r47 (by simp [q44]) rfl ?_
   simp [q44]
  ·intro t1 w2 r h
   rw [zAY] at h
   refine zA6 Tryz.func118 (by rfl) (by rfl) (by simp) (by simp) <| cutA 193 1 [(0, .mptr 0 0), (3, .mptr 1 0)] [[.osl ⟨1, 9⟩ (w2.tokens.map cS)], t1.d] <| cutA 193 1 [(0, .mptr 0 0), (3, .mptr 1 0), (5, .int .i64 t1.Op)] [[.osl ⟨1, 9⟩ (w2.tokens.map cS)], t1.d] <| zAU <| cutA 193 1 [(0, .mptr 0 0), (3, .mptr 1 0), (5, .int .i64 t1.Op), (6, .bool (eqI t1.Op 61))] [[.osl ⟨1, 9⟩ (w2.tokens.map cS)], t1.d] <| spc h rfl (fun g3 h => ?_) fun g3 h => ?_
   ·obtain ⟨v5, q6, h⟩ := bs h
    refine cut 193 1 [(0, .mptr 0 0), (3, .mptr 1 0)] [[.osl ⟨1, 9⟩ (v5.tokens.map cS)], t1.d] ?_ ?_
    ·refine st ?_
     simp
     have r12 := (zAC [[118, 97, 108], t1.S, [58]] w2 v5 q6).frame [0] [[.osl ⟨1, 9⟩ (w2.tokens.map cS)], t1.d] (by simp)
     try simp at r12
     refine zAR r12 (by simp) rfl ?_
     simp
    obtain ⟨x7, q8, h⟩ := bs h
    obtain ⟨v9, q10, h⟩ := bs h
    obtain rfl := oi h
    refine st ?_
    simp [q8]
    have r11 := (zAL x7 0 v5 v9 q10).frame [0] [[.osl ⟨1, 9⟩ (v5.tokens.map cS)], t1.d] (by simp)
    try simp [q8] at r11
    refine zAR r11 (by simp [q8]) rfl ?_
    simp [q8]
   refine cutA 193 1 [(0, .mptr 0 0), (3, .mptr 1 0), (5, .int .i64 t1.Op), (19, .bool (eqI t1.Op 62))] [[.osl ⟨1, 9⟩ (w2.tokens.map cS)], t1.d] <| spc h rfl (fun g14 h => ?_) fun g14 h => ?_
   ·obtain ⟨v16, q17, h⟩ := bs h
    refine cut 193 1 [(0, .mptr 0 0), (3, .mptr 1 0)] [[.osl ⟨1, 9⟩ (v16.tokens.map cS)], t1.d] ?_ ?_
    ·refine st ?_
     simp
     have r24 := (zAC [[116, 121, 112, 101]] w2 v16 q17).frame [0] [[.osl ⟨1, 9⟩ (w2.tokens.map cS)], t1.d] (by simp)
     try simp at r24
     refine zAR r24 (by simp) rfl ?_
     simp
    obtain ⟨v18, q19, h⟩ := bs h
    refine cut 193 1 [(0, .mptr 0 0), (3, .mptr 1 0)] [[.osl ⟨1, 9⟩ (v18.tokens.map cS)], t1.d] ?_ ?_
    ·refine st ?_
     simp
     have r23 := (zC2 fuel t1.Names v16 v18 q19).frame [0] [[.osl ⟨1, 9⟩ (v16.tokens.map cS)], t1.d] (by simp)
     try simp at r23
     refine zAR r23 (by simp) rfl ?_
     simp
    obtain ⟨v20, q21, h⟩ := bs h
    obtain rfl := oi h
    refine st ?_
    simp
    have r22 := (zAC [t1.S] v18 v20 q21).frame [0] [[.osl ⟨1, 9⟩ (v18.tokens.map cS)], t1.d] (by simp)
    try simp at r22
    refine zAR r22 (by simp) rfl ?_
    simp
   refine cutA 193 1 [(0, .mptr 0 0), (3, .mptr 1 0), (5, .int .i64 t1.Op), (33, .bool (eqI t1.Op 63))] [[.osl ⟨1, 9⟩ (w2.tokens.map cS)], t1.d] <| spc h rfl (fun g26 h => ?_) fun g26 h => ?_
   ·obtain ⟨v28, q29, h⟩ := bs h
    refine cut 193 1 [(0, .mptr 0 0), (3, .mptr 1 0)] [[.osl ⟨1, 9⟩ (v28.tokens.map cS)], t1.d] ?_ ?_
    ·refine st ?_
     simp
     have r35 := (zAC [[115, 116, 114, 117, 99, 116, 117, 114, 101], t1.S, [58]] w2 v28 q29).frame [0] [[.osl ⟨1, 9⟩ (w2.tokens.map cS)], t1.d] (by simp)
     try simp at r35
     refine zAR r35 (by simp) rfl ?_
     simp
    obtain ⟨x30, q31, h⟩ := bs h
    obtain ⟨v32, q33, h⟩ := bs h
    obtain rfl := oi h
    refine st ?_
    simp [q31]
    have r34 := (zAL x30 0 v28 v32 q33).frame [0] [[.osl ⟨1, 9⟩ (v28.tokens.map cS)], t1.d] (by simp)
    try simp [q31] at r34
    refine zAR r34 (by simp [q31]) rfl ?_
    simp [q31]
   refine cutA 193 1 [(0, .mptr 0 0), (3, .mptr 1 0), (5, .int .i64 t1.Op), (46, .bool (eqI t1.Op 65))] [[.osl ⟨1, 9⟩ (w2.tokens.map cS)], t1.d] <| spc h rfl (fun g37 h => ?_) fun g37 h => ?_
   ·obtain ⟨v39, q40, h⟩ := bs h
    refine cut 193 1 [(0, .mptr 0 0), (3, .mptr 1 0)] [[.osl ⟨1, 9⟩ (v39.tokens.map cS)], t1.d] ?_ ?_
    ·refine st ?_
     simp
     have r46 := (zAC [[105, 110, 99, 108, 117, 100, 101]] w2 v39 q40).frame [0] [[.osl ⟨1, 9⟩ (w2.tokens.map cS)], t1.d] (by simp)
     try simp at r46
     refine zAR r46 (by simp) rfl ?_
     simp
    obtain ⟨x41, q42, h⟩ := bs h
    obtain ⟨v43, q44, h⟩ := bs h
    obtain rfl := oi h
    refine st ?_
    simp [q42]
    have r45 := (zAL x41 0 v39 v43 q44).frame [0] [[.osl ⟨1, 9⟩ (v39.tokens.map cS)], t1.d] (by simp)
    try simp [q42] at r45
    refine zAR r45 (by simp [q42]) rfl ?_
    simp [q42]
   refine cutA 193 1 [(0, .mptr 0 0), (3, .mptr 1 0), (5, .int .i64 t1.Op), (57, .bool (eqI t1.Op 66))] [[.osl ⟨1, 9⟩ (w2.tokens.map cS)], t1.d] <| spc h rfl (fun g48 h => ?_) fun g48 h => ?_
   ·obtain ⟨v50, q51, h⟩ := bs h
    obtain ⟨v52, q53, h⟩ := bs h
    refine cut 193 1 [(0, .mptr 0 0), (3, .mptr 1 0)] [[.osl ⟨1, 9⟩ (v52.tokens.map cS)], t1.d] ?_ ?_
    ·refine st ?_
     simp
     have r59 := zBk t1.Names v50 q51
     try simp at r59
     refine zAA r59 (by simp) rfl ?_
     simp
     have r60 := (zAC [[115, 104, 97, 114, 105, 110, 103], [116, 121, 112, 101], v50, [61]] w2 v52 q53).frame [0] [[.osl ⟨1, 9⟩ (w2.tokens.map cS)], t1.d] (by simp)
     try simp at r60
     refine zAR r60 (by simp) rfl ?_
     simp
    obtain ⟨x54, q55, h⟩ := bs h
    obtain ⟨v56, q57, h⟩ := bs h
    obtain rfl := oi h
    refine st ?_
    simp [q55]
    have r58 := (zAL x54 0 v52 v56 q57).frame [0] [[.osl ⟨1, 9⟩ (v52.tokens.map cS)], t1.d] (by simp)
    try simp [q55] at r58
    refine zAR r58 (by simp [q55]) rfl ?_
    simp [q55]
   refine cutA 193 1 [(0, .mptr 0 0), (3, .mptr 1 0), (5, .int .i64 t1.Op), (71, .bool (eqI t1.Op 71))] [[.osl ⟨1, 9⟩ (w2.tokens.map cS)], t1.d] <| spc h rfl (fun g62 h => ?_) fun g62 h => ?_
   ·obtain ⟨v64, q65, h⟩ := bs h
    refine cut 193 1 [(0, .mptr 0 0), (3, .mptr 1 0)] [[.osl ⟨1, 9⟩ (v64.tokens.map cS)], t1.d] ?_ ?_
    ·refine st ?_
     simp
     have r72 := (zAC [[115, 105, 103]] w2 v64 q65).frame [0] [[.osl ⟨1, 9⟩ (w2.tokens.map cS)], t1.d] (by simp)
     try simp at r72
     refine zAR r72 (by simp) rfl ?_
     simp
    obtain ⟨v66, q67, h⟩ := bs h
    refine cut 193 1 [(0, .mptr 0 0)] [[.osl ⟨1, 9⟩ (v66.tokens.map cS)], t1.d] ?_ ?_
    ·refine st ?_
     simp
     have r71 := (zBF t1.L 0 ([] : List UInt8) v64 v66 q67).frame [0] [[.osl ⟨1, 9⟩ (v64.tokens.map cS)], t1.d] (by simp)
     try simp at r71
     refine zAR r71 (by simp) rfl ?_
     simp
    obtain ⟨v68, q69, h⟩ := bs h
    obtain rfl := oi h
    refine st ?_
    simp
    have r70 := (zAC [[101, 110, 100]] v66 v68 q69).frame [0] [[.osl ⟨1, 9⟩ (v66.tokens.map cS)], t1.d] (by simp)
    try simp at r70
    refine zAR r70 (by simp) rfl ?_
    simp
   refine cutA 193 1 [(0, .mptr 0 0), (3, .mptr 1 0), (5, .int .i64 t1.Op), (83, .bool (eqI t1.Op 81))] [[.osl ⟨1, 9⟩ (w2.tokens.map cS)], t1.d] <| spc h rfl (fun g74 h => ?_) fun g74 h => ?_
   ·obtain ⟨v76, q77, h⟩ := bs h
    refine cut 193 1 [(0, .mptr 0 0), (3, .mptr 1 0)] [[.osl ⟨1, 9⟩ (v76.tokens.map cS)], t1.d] ?_ ?_
    ·refine st ?_
     simp
     have r84 := (zAC [[115, 116, 114, 117, 99, 116]] w2 v76 q77).frame [0] [[.osl ⟨1, 9⟩ (w2.tokens.map cS)], t1.d] (by simp)
     try simp at r84
     refine zAR r84 (by simp) rfl ?_
     simp
    obtain ⟨v78, q79, h⟩ := bs h
    refine cut 193 1 [(0, .mptr 0 0)] [[.osl ⟨1, 9⟩ (v78.tokens.map cS)], t1.d] ?_ ?_
    ·refine st ?_
     simp
     have r83 := (zBF t1.L 0 ([] : List UInt8) v76 v78 q79).frame [0] [[.osl ⟨1, 9⟩ (v76.tokens.map cS)], t1.d] (by simp)
     try simp at r83
     refine zAR r83 (by simp) rfl ?_
     simp
    obtain ⟨v80, q81, h⟩ := bs h
    obtain rfl := oi h
    refine st ?_
    simp
    have r82 := (zAC [[101, 110, 100]] v78 v80 q81).frame [0] [[.osl ⟨1, 9⟩ (v78.tokens.map cS)], t1.d] (by simp)
    try simp at r82
    refine zAR r82 (by simp) rfl ?_
    simp
   refine zAM <| cutA 193 1 [(0, .mptr 0 0), (3, .mptr 1 0), (5, .int .i64 t1.Op), (95, .bool (eqI t1.Op 73))] [[.osl ⟨1, 9⟩ (w2.tokens.map cS)], t1.d] <| spc h rfl (fun g86 h => ?_) fun g86 h => ?_
   ·refine zAF <| zAP <| zBE rfl (by simp [g86]) ?_
    obtain ⟨v88, q89, h⟩ := bs h
    obtain rfl := oi h
    refine st ?_
    simp
    have r90 := (zEN t1 w2 v88 q89).frame [0] [[.osl ⟨1, 9⟩ (w2.tokens.map cS)], t1.d] (by simp)
    try simp at r90
    refine zAR r90 (by simp) rfl ?_
    simp
   refine zEf 193 1 [(0, .mptr 0 0), (3, .mptr 1 0), (5, .int .i64 t1.Op), (95, .bool (eqI t1.Op 83))] [[.osl ⟨1, 9⟩ (w2.tokens.map cS)], t1.d] <| spc h rfl (fun g92 h => ?_) fun g92 h => ?_
   ·have c93 := eqT g92
    obtain ⟨v94, q95, h⟩ := bs h
    obtain rfl := oi h
    refine st ?_
    simp
    have r96 := (zEN t1 w2 v94 q95).frame [0] [[.osl ⟨1, 9⟩ (w2.tokens.map cS)], t1.d] (by simp)
    try simp at r96
    refine zAR r96 (by simp) rfl ?_
    simp
   have c97 := eqF g92
   refine cutA 193 1 [(0, .mptr 0 0), (3, .mptr 1 0), (5, .int .i64 t1.Op), (101, .bool (eqI t1.Op 74))] [[.osl ⟨1, 9⟩ (w2.tokens.map cS)], t1.d] <| spc h rfl (fun g98 h => ?_) fun g98 h => ?_
   ·obtain ⟨x100, q101, h⟩ := bs h
    obtain ⟨v102, q103, h⟩ := bs h
    refine cut 193 1 [(0, .mptr 0 0), (3, .mptr 1 0)] [[.osl ⟨1, 9⟩ (v102.tokens.map cS)], t1.d] ?_ ?_
    ·refine st ?_
     simp [q101]
     have r127 := (zAL x100 1 w2 v102 q103).frame [0] [[.osl ⟨1, 9⟩ (w2.tokens.map cS)], t1.d] (by simp)
     try simp [q101] at r127
     refine zAR r127 (by simp [q101]) rfl ?_
     simp [q101]
    obtain ⟨l104, q105, h⟩ := bs h
    obtain ⟨q106, q107⟩ := zD6 q105
    obtain ⟨v108, q109, h⟩ := bs h
    refine cut 193 1 [(0, .mptr 0 0), (3, .mptr 1 0)] [[.osl ⟨1, 9⟩ (v108.tokens.map cS)], t1.d] ?_ ?_
    ·refine st ?_
     simp [q106, q107]
     have r126 := (zAC l104 v102 v108 q109).frame [0] [[.osl ⟨1, 9⟩ (v102.tokens.map cS)], t1.d] (by simp)
     try simp [q106, q107] at r126
     refine zAR r126 (by simp [q106, q107]) rfl ?_
     simp [q106, q107]
    obtain ⟨x110, q111, h⟩ := bs h
    obtain ⟨v112, q113, h⟩ := bs h
    refine cut 193 1 [(0, .mptr 0 0), (3, .mptr 1 0)] [[.osl ⟨1, 9⟩ (v112.tokens.map cS)], t1.d] ?_ ?_
    ·refine st ?_
     simp [q111]
     have r125 := (zC2 fuel x110.Names v108 v112 q113).frame [0] [[.osl ⟨1, 9⟩ (v108.tokens.map cS)], t1.d] (by simp)
     try simp [q111] at r125
     refine zAR r125 (by simp [q111]) rfl ?_
     simp [q111]
    obtain ⟨v114, q115, h⟩ := bs h
    obtain ⟨v116, q117, h⟩ := bs h
    refine cut 193 1 [(0, .mptr 0 0), (3, .mptr 1 0)] [[.osl ⟨1, 9⟩ (v116.tokens.map cS)], t1.d] ?_ ?_
    ·refine st ?_
     simp
     have r123 := zBk t1.Names v114 q115
     try simp at r123
     refine zAA r123 (by simp) rfl ?_
     simp
     have r124 := (zAC [v114, [61]] v112 v116 q117).frame [0] [[.osl ⟨1, 9⟩ (v112.tokens.map cS)], t1.d] (by simp)
     try simp at r124
     refine zAR r124 (by simp) rfl ?_
     simp
    obtain ⟨x118, q119, h⟩ := bs h
    obtain ⟨v120, q121, h⟩ := bs h
    obtain rfl := oi h
    refine st ?_
    simp [q111, q119]
    have r122 := (zAL x118 0 v116 v120 q121).frame [0] [[.osl ⟨1, 9⟩ (v116.tokens.map cS)], t1.d] (by simp)
    try simp [q111, q119] at r122
    refine zAR r122 (by simp [q111, q119]) rfl ?_
    simp [q111, q119]
   refine cutA 193 1 [(0, .mptr 0 0), (3, .mptr 1 0), (5, .int .i64 t1.Op), (134, .bool (eqI t1.Op 84))] [[.osl ⟨1, 9⟩ (w2.tokens.map cS)], t1.d] <| spc h rfl (fun g129 h => ?_) fun g129 h => ?_
   ·obtain ⟨x131, q132, h⟩ := bs h
    obtain ⟨v133, q134, h⟩ := bs h
    refine cut 193 1 [(0, .mptr 0 0), (3, .mptr 1 0)] [[.osl ⟨1, 9⟩ (v133.tokens.map cS)], t1.d] ?_ ?_
    ·refine st ?_
     simp [q132]
     have r146 := (zAL x131 2 w2 v133 q134).frame [0] [[.osl ⟨1, 9⟩ (w2.tokens.map cS)], t1.d] (by simp)
     try simp [q132] at r146
     refine zAR r146 (by simp [q132]) rfl ?_
     simp [q132]
    obtain ⟨v135, q136, h⟩ := bs h
    refine cut 193 1 [(0, .mptr 0 0), (3, .mptr 1 0)] [[.osl ⟨1, 9⟩ (v135.tokens.map cS)], t1.d] ?_ ?_
    ·refine st ?_
     simp
     have r145 := (zAC [[40]] v133 v135 q136).frame [0] [[.osl ⟨1, 9⟩ (v133.tokens.map cS)], t1.d] (by simp)
     try simp at r145
     refine zAR r145 (by simp) rfl ?_
     simp
    obtain ⟨x137, q138, h⟩ := bs h
    obtain ⟨v139, q140, h⟩ := bs h
    refine cut 193 1 [(0, .mptr 0 0)] [[.osl ⟨1, 9⟩ (v139.tokens.map cS)], t1.d] ?_ ?_
    ·refine st ?_
     simp [q138]
     have r144 := (zAL x137 0 v135 v139 q140).frame [0] [[.osl ⟨1, 9⟩ (v135.tokens.map cS)], t1.d] (by simp)
     try simp [q138] at r144
     refine zAR r144 (by simp [q138]) rfl ?_
     simp [q138]
    obtain ⟨v141, q142, h⟩ := bs h
    obtain rfl := oi h
    refine st ?_
    simp
    have r143 := (zAC [[41]] v139 v141 q142).frame [0] [[.osl ⟨1, 9⟩ (v139.tokens.map cS)], t1.d] (by simp)
    try simp at r143
    refine zAR r143 (by simp) rfl ?_
    simp
   refine cutA 193 1 [(0, .mptr 0 0), (3, .mptr 1 0), (5, .int .i64 t1.Op), (154, .bool (eqI t1.Op 85))] [[.osl ⟨1, 9⟩ (w2.tokens.map cS)], t1.d] <| spc h rfl (fun g148 h => ?_) fun g148 h => ?_
   ·obtain ⟨x150, q151, h⟩ := bs h
    obtain ⟨v152, q153, h⟩ := bs h
    refine cut 193 1 [(0, .mptr 0 0), (3, .mptr 1 0)] [[.osl ⟨1, 9⟩ (v152.tokens.map cS)], t1.d] ?_ ?_
    ·refine st ?_
     simp [q151]
     have r162 := (zAL x150 1 w2 v152 q153).frame [0] [[.osl ⟨1, 9⟩ (w2.tokens.map cS)], t1.d] (by simp)
     try simp [q151] at r162
     refine zAR r162 (by simp [q151]) rfl ?_
     simp [q151]
    obtain ⟨v154, q155, h⟩ := bs h
    refine cut 193 1 [(0, .mptr 0 0), (3, .mptr 1 0)] [[.osl ⟨1, 9⟩ (v154.tokens.map cS)], t1.d] ?_ ?_
    ·refine st ?_
     simp
     have r161 := (zAC [[58, 62]] v152 v154 q155).frame [0] [[.osl ⟨1, 9⟩ (v152.tokens.map cS)], t1.d] (by simp)
     try simp at r161
     refine zAR r161 (by simp) rfl ?_
     simp
    obtain ⟨x156, q157, h⟩ := bs h
    obtain ⟨v158, q159, h⟩ := bs h
    obtain rfl := oi h
    refine st ?_
    simp [q157]
    have r160 := (zAL x156 2 v154 v158 q159).frame [0] [[.osl ⟨1, 9⟩ (v154.tokens.map cS)], t1.d] (by simp)
    try simp [q157] at r160
    refine zAR r160 (by simp [q157]) rfl ?_
    simp [q157]
   refine cutA 193 1 [(0, .mptr 0 0), (3, .mptr 1 0), (5, .int .i64 t1.Op), (171, .bool (eqI t1.Op 86))] [[.osl ⟨1, 9⟩ (w2.tokens.map cS)], t1.d] <| spc h rfl (fun g164 h => ?_) fun g164 h => ?_
   ·obtain ⟨x166, q167, h⟩ := bs h
    obtain ⟨v168, q169, h⟩ := bs h
    refine cut 193 1 [(0, .mptr 0 0), (3, .mptr 1 0)] [[.osl ⟨1, 9⟩ (v168.tokens.map cS)], t1.d] ?_ ?_
    ·refine st ?_
     simp [q167]
     have r178 := (zAL x166 1 w2 v168 q169).frame [0] [[.osl ⟨1, 9⟩ (w2.tokens.map cS)], t1.d] (by simp)
     try simp [q167] at r178
     refine zAR r178 (by simp [q167]) rfl ?_
     simp [q167]
    obtain ⟨v170, q171, h⟩ := bs h
    refine cut 193 1 [(0, .mptr 0 0), (3, .mptr 1 0)] [[.osl ⟨1, 9⟩ (v170.tokens.map cS)], t1.d] ?_ ?_
    ·refine st ?_
     simp
     have r177 := (zAC [[58]] v168 v170 q171).frame [0] [[.osl ⟨1, 9⟩ (v168.tokens.map cS)], t1.d] (by simp)
     try simp at r177
     refine zAR r177 (by simp) rfl ?_
     simp
    obtain ⟨x172, q173, h⟩ := bs h
    obtain ⟨v174, q175, h⟩ := bs h
    obtain rfl := oi h
    refine st ?_
    simp [q173]
    have r176 := (zAL x172 2 v170 v174 q175).frame [0] [[.osl ⟨1, 9⟩ (v170.tokens.map cS)], t1.d] (by simp)
    try simp [q173] at r176
    refine zAR r176 (by simp [q173]) rfl ?_
    simp [q173]
   refine cutA 193 1 [(0, .mptr 0 0), (3, .mptr 1 0), (188, .bool (eqI t1.Op 88))] [[.osl ⟨1, 9⟩ (w2.tokens.map cS)], t1.d] <| spc h rfl (fun g180 h => ?_) fun g180 h => ?_
   ·obtain ⟨v182, q183, h⟩ := bs h
    obtain rfl := oi h
    refine st ?_
    simp
    have r184 := (zEg t1 w2 v182 q183).frame [0] [[.osl ⟨1, 9⟩ (w2.tokens.map cS)], t1.d] (by simp)
    try simp at r184
    refine zAR r184 (by simp) rfl ?_
    simp
   refine zAF <| zCx ?_
   obtain rfl := oi h
   simp
  ·intro t1 w2 r h
   rw [zBw] at h
   refine zA6 Tryz.func117 (by rfl) (by rfl) (by simp) (by simp) <| cutA 22 1 [(0, .mptr 0 0), (3, .mptr 1 0)] [[.osl ⟨1, 9⟩ (w2.tokens.map cS)], t1.d] ?_
   obtain ⟨v3, q4, h⟩ := bs h
   refine cut 22 1 [(0, .mptr 0 0), (3, .mptr 1 0)] [[.osl ⟨1, 9⟩ (v3.tokens.map cS)], t1.d] ?_ ?_
   ·refine st ?_
    simp
    have r18 := (zAC [[117, 110, 112, 97, 99, 107]] w2 v3 q4).frame [0] [[.osl ⟨1, 9⟩ (w2.tokens.map cS)], t1.d] (by simp)
    try simp at r18
    refine zAR r18 (by simp) rfl ?_
    simp
   obtain ⟨x5, q6, h⟩ := bs h
   obtain ⟨v7, q8, h⟩ := bs h
   refine cut 22 1 [(0, .mptr 0 0), (3, .mptr 1 0)] [[.osl ⟨1, 9⟩ (v7.tokens.map cS)], t1.d] ?_ ?_
   ·refine st ?_
    simp [q6]
    have r17 := (zAL x5 9 v3 v7 q8).frame [0] [[.osl ⟨1, 9⟩ (v3.tokens.map cS)], t1.d] (by simp)
    try simp [q6] at r17
    refine zAR r17 (by simp [q6]) rfl ?_
    simp [q6]
   obtain ⟨v9, q10, h⟩ := bs h
   refine cut 22 1 [(0, .mptr 0 0), (3, .mptr 1 0)] [[.osl ⟨1, 9⟩ (v9.tokens.map cS)], t1.d] ?_ ?_
   ·refine st ?_
    simp
    have r16 := (zAC [[58]] v7 v9 q10).frame [0] [[.osl ⟨1, 9⟩ (v7.tokens.map cS)], t1.d] (by simp)
    try simp at r16
    refine zAR r16 (by simp) rfl ?_
    simp
   obtain ⟨x11, q12, h⟩ := bs h
   obtain ⟨v13, q14, h⟩ := bs h
   obtain rfl := oi h
   refine st ?_
   simp [q12]
   have r15 := (zAL x11 2 v9 v13 q14).frame [0] [[.osl ⟨1, 9⟩ (v9.tokens.map cS)], t1.d] (by simp)
   try simp [q12] at r15
   refine zAR r15 (by simp [q12]) rfl ?_
   simp [q12]
  ·intro t1 w2 r h
   rw [zAT] at h
   refine zA6 Tryz.func98 (by rfl) (by rfl) (by simp) (by simp) <| cutA 153 1 [(0, .mptr 0 0), (3, .mptr 1 0)] [[.osl ⟨1, 9⟩ (w2.tokens.map cS)], t1.d] <| cutA 153 1 [(0, .mptr 0 0), (3, .mptr 1 0), (5, .int .i64 t1.Op)] [[.osl ⟨1, 9⟩ (w2.tokens.map cS)], t1.d] <| zAU <| cutA 153 1 [(0, .mptr 0 0), (3, .mptr 1 0), (5, .int .i64 t1.Op), (9, .bool (eqI t1.Op 41))] [[.osl ⟨1, 9⟩ (w2.tokens.map cS)], t1.d] <| spc h rfl (fun g3 h => ?_) fun g3 h => ?_
   ·obtain ⟨v5, q6, h⟩ := bs h
    refine cut 153 1 [(0, .mptr 0 0), (3, .mptr 1 0)] [[.osl ⟨1, 9⟩ (v5.tokens.map cS)], t1.d] ?_ ?_
    ·refine st ?_
     simp
     have r12 := (zAC [[118, 97, 108], t1.S, [61]] w2 v5 q6).frame [0] [[.osl ⟨1, 9⟩ (w2.tokens.map cS)], t1.d] (by simp)
     try simp at r12
     refine zAR r12 (by simp) rfl ?_
     simp
    obtain ⟨x7, q8, h⟩ := bs h
    obtain ⟨v9, q10, h⟩ := bs h
    obtain rfl := oi h
    refine st ?_
    simp [q8]
    have r11 := (zAL x7 0 v5 v9 q10).frame [0] [[.osl ⟨1, 9⟩ (v5.tokens.map cS)], t1.d] (by simp)
    try simp [q8] at r11
    refine zAR r11 (by simp [q8]) rfl ?_
    simp [q8]
   refine cutA 153 1 [(0, .mptr 0 0), (3, .mptr 1 0), (5, .int .i64 t1.Op), (22, .bool (eqI t1.Op 42))] [[.osl ⟨1, 9⟩ (w2.tokens.map cS)], t1.d] <| spc h rfl (fun g14 h => ?_) fun g14 h => ?_
   ·obtain ⟨v16, q17, h⟩ := bs h
    refine cut 153 1 [(0, .mptr 0 0), (3, .mptr 1 0)] [[.osl ⟨1, 9⟩ (v16.tokens.map cS)], t1.d] ?_ ?_
    ·refine st ?_
     simp
     have r29 := (zAC [[102, 117, 110], t1.S] w2 v16 q17).frame [0] [[.osl ⟨1, 9⟩ (w2.tokens.map cS)], t1.d] (by simp)
     try simp at r29
     refine zAR r29 (by simp) rfl ?_
     simp
    obtain ⟨v18, q19, h⟩ := bs h
    refine cut 153 1 [(0, .mptr 0 0), (3, .mptr 1 0)] [[.osl ⟨1, 9⟩ (v18.tokens.map cS)], t1.d] ?_ ?_
    ·refine st ?_
     simp
     have r28 := (zAC t1.Names v16 v18 q19).frame [0] [[.osl ⟨1, 9⟩ (v16.tokens.map cS)], t1.d] (by simp)
     try simp at r28
     refine zAR r28 (by simp) rfl ?_
     simp
    obtain ⟨v20, q21, h⟩ := bs h
    refine cut 153 1 [(0, .mptr 0 0), (3, .mptr 1 0)] [[.osl ⟨1, 9⟩ (v20.tokens.map cS)], t1.d] ?_ ?_
    ·refine st ?_
     simp
     have r27 := (zAC [[61]] v18 v20 q21).frame [0] [[.osl ⟨1, 9⟩ (v18.tokens.map cS)], t1.d] (by simp)
     try simp at r27
     refine zAR r27 (by simp) rfl ?_
     simp
    obtain ⟨x22, q23, h⟩ := bs h
    obtain ⟨v24, q25, h⟩ := bs h
    obtain rfl := oi h
    refine st ?_
    simp [q23]
    have r26 := (zAL x22 0 v20 v24 q25).frame [0] [[.osl ⟨1, 9⟩ (v20.tokens.map cS)], t1.d] (by simp)
    try simp [q23] at r26
    refine zAR r26 (by simp [q23]) rfl ?_
    simp [q23]
   refine cutA 153 1 [(0, .mptr 0 0), (3, .mptr 1 0), (5, .int .i64 t1.Op), (42, .bool (eqI t1.Op 43))] [[.osl ⟨1, 9⟩ (w2.tokens.map cS)], t1.d] <| spc h rfl (fun g31 h => ?_) fun g31 h => ?_
   ·obtain ⟨v33, q34, h⟩ := bs h
    refine cut 153 1 [(0, .mptr 0 0), (3, .mptr 1 0)] [[.osl ⟨1, 9⟩ (v33.tokens.map cS)], t1.d] ?_ ?_
    ·refine st ?_
     simp
     have r46 := (zAC [[116, 121, 112, 101]] w2 v33 q34).frame [0] [[.osl ⟨1, 9⟩ (w2.tokens.map cS)], t1.d] (by simp)
     try simp at r46
     refine zAR r46 (by simp) rfl ?_
     simp
    obtain ⟨v35, q36, h⟩ := bs h
    refine cut 153 1 [(0, .mptr 0 0), (3, .mptr 1 0)] [[.osl ⟨1, 9⟩ (v35.tokens.map cS)], t1.d] ?_ ?_
    ·refine st ?_
     simp
     have r45 := (zC2 fuel t1.Names v33 v35 q36).frame [0] [[.osl ⟨1, 9⟩ (v33.tokens.map cS)], t1.d] (by simp)
     try simp at r45
     refine zAR r45 (by simp) rfl ?_
     simp
    obtain ⟨v37, q38, h⟩ := bs h
    refine cut 153 1 [(0, .mptr 0 0), (3, .mptr 1 0)] [[.osl ⟨1, 9⟩ (v37.tokens.map cS)], t1.d] ?_ ?_
    ·refine st ?_
     simp
     have r44 := (zAC [t1.S, [61]] v35 v37 q38).frame [0] [[.osl ⟨1, 9⟩ (v35.tokens.map cS)], t1.d] (by simp)
     try simp at r44
     refine zAR r44 (by simp) rfl ?_
     simp
    obtain ⟨x39, q40, h⟩ := bs h
    obtain ⟨v41, q42, h⟩ := bs h
    obtain rfl := oi h
    refine st ?_
    simp [q40]
    have r43 := (zAL x39 0 v37 v41 q42).frame [0] [[.osl ⟨1, 9⟩ (v37.tokens.map cS)], t1.d] (by simp)
    try simp [q40] at r43
    refine zAR r43 (by simp [q40]) rfl ?_
    simp [q40]
   refine cutA 153 1 [(0, .mptr 0 0), (3, .mptr 1 0), (5, .int .i64 t1.Op), (62, .bool (eqI t1.Op 44))] [[.osl ⟨1, 9⟩ (w2.tokens.map cS)], t1.d] <| spc h rfl (fun g48 h => ?_) fun g48 h => ?_
   ·obtain ⟨v50, q51, h⟩ := bs h
    refine cut 153 1 [(0, .mptr 0 0), (3, .mptr 1 0)] [[.osl ⟨1, 9⟩ (v50.tokens.map cS)], t1.d] ?_ ?_
    ·refine st ?_
     simp
     have r61 := (zAC [[100, 97, 116, 97]] w2 v50 q51).frame [0] [[.osl ⟨1, 9⟩ (w2.tokens.map cS)], t1.d] (by simp)
     try simp at r61
     refine zAR r61 (by simp) rfl ?_
     simp
    obtain ⟨v52, q53, h⟩ := bs h
    refine cut 153 1 [(0, .mptr 0 0), (3, .mptr 1 0)] [[.osl ⟨1, 9⟩ (v52.tokens.map cS)], t1.d] ?_ ?_
    ·refine st ?_
     simp
     have r60 := (zC2 fuel t1.Names v50 v52 q53).frame [0] [[.osl ⟨1, 9⟩ (v50.tokens.map cS)], t1.d] (by simp)
     try simp at r60
     refine zAR r60 (by simp) rfl ?_
     simp
    obtain ⟨v54, q55, h⟩ := bs h
    refine cut 153 1 [(0, .mptr 0 0), (3, .mptr 1 0)] [[.osl ⟨1, 9⟩ (v54.tokens.map cS)], t1.d] ?_ ?_
    ·refine st ?_
     simp
     have r59 := (zAC [t1.S, [61]] v52 v54 q55).frame [0] [[.osl ⟨1, 9⟩ (v52.tokens.map cS)], t1.d] (by simp)
     try simp at r59
     refine zAR r59 (by simp) rfl ?_
     simp
    obtain ⟨v56, q57, h⟩ := bs h
    obtain rfl := oi h
    refine st ?_
    simp
    have r58 := (zBF t1.L 0 [124] v54 v56 q57).frame [0] [[.osl ⟨1, 9⟩ (v54.tokens.map cS)], t1.d] (by simp)
    try simp at r58
    refine zAR r58 (by simp) rfl ?_
    simp
   refine cutA 153 1 [(0, .mptr 0 0), (3, .mptr 1 0), (5, .int .i64 t1.Op), (80, .bool (eqI t1.Op 45))] [[.osl ⟨1, 9⟩ (w2.tokens.map cS)], t1.d] <| spc h rfl (fun g63 h => ?_) fun g63 h => ?_
   ·obtain ⟨v65, q66, h⟩ := bs h
    refine cut 153 1 [(0, .mptr 0 0), (3, .mptr 1 0)] [[.osl ⟨1, 9⟩ (v65.tokens.map cS)], t1.d] ?_ ?_
    ·refine st ?_
     simp
     have r80 := (zAC [t1.S] w2 v65 q66).frame [0] [[.osl ⟨1, 9⟩ (w2.tokens.map cS)], t1.d] (by simp)
     try simp at r80
     refine zAR r80 (by simp) rfl ?_
     simp
    refine cutA 153 1 [(0, .mptr 0 0), (3, .mptr 1 0), (90, .bool (ltI 0 (t1.L.length : Int)))] [[.osl ⟨1, 9⟩ (v65.tokens.map cS)], t1.d] <| spc h rfl (fun g67 h => ?_) fun g67 h => ?_
    ·have c68 := ltT g67
     refine zCJ 1 4 rfl rfl rfl fun f69 => ?_
     rw [List.length_map] at f69
     obtain ⟨v70, q71, h⟩ := bs h
     refine cut 153 1 [(0, .mptr 0 0), (3, .mptr 1 0)] [[.osl ⟨1, 9⟩ (v70.tokens.map cS)], t1.d] ?_ ?_
     ·refine st ?_
      simp
      have r77 := (zAC [[111, 102]] v65 v70 q71).frame [0] [[.osl ⟨1, 9⟩ (v65.tokens.map cS)], t1.d] (by simp)
      try simp at r77
      refine zAR r77 (by simp) rfl ?_
      simp
     obtain ⟨x72, q73, h⟩ := bs h
     obtain ⟨v74, q75, h⟩ := bs h
     obtain rfl := oi h
     refine st ?_
     simp [q73]
     have r76 := (zAL x72 0 v70 v74 q75).frame [0] [[.osl ⟨1, 9⟩ (v70.tokens.map cS)], t1.d] (by simp)
     try simp [q73] at r76
     refine zAR r76 (by simp [q73]) rfl ?_
     simp [q73]
    have c78 := ltF g67
    refine zCJ 1 4 rfl rfl rfl fun f79 => ?_
    rw [List.length_map] at f79
    refine zAF <| zCx ?_
    obtain rfl := oi h
    simp
   refine cutA 153 1 [(0, .mptr 0 0), (3, .mptr 1 0), (5, .int .i64 t1.Op), (100, .bool (eqI t1.Op 46))] [[.osl ⟨1, 9⟩ (w2.tokens.map cS)], t1.d] <| spc h rfl (fun g82 h => ?_) fun g82 h => ?_
   ·obtain ⟨v84, q85, h⟩ := bs h
    refine cut 153 1 [(0, .mptr 0 0), (3, .mptr 1 0)] [[.osl ⟨1, 9⟩ (v84.tokens.map cS)], t1.d] ?_ ?_
    ·refine st ?_
     simp
     have r91 := (zAC [[115, 116, 114, 117, 99, 116, 117, 114, 101], t1.S, [61]] w2 v84 q85).frame [0] [[.osl ⟨1, 9⟩ (w2.tokens.map cS)], t1.d] (by simp)
     try simp at r91
     refine zAR r91 (by simp) rfl ?_
     simp
    obtain ⟨x86, q87, h⟩ := bs h
    obtain ⟨v88, q89, h⟩ := bs h
    obtain rfl := oi h
    refine st ?_
    simp [q87]
    have r90 := (zAL x86 0 v84 v88 q89).frame [0] [[.osl ⟨1, 9⟩ (v84.tokens.map cS)], t1.d] (by simp)
    try simp [q87] at r90
    refine zAR r90 (by simp [q87]) rfl ?_
    simp [q87]
   refine zAM <| cutA 153 1 [(0, .mptr 0 0), (3, .mptr 1 0), (5, .int .i64 t1.Op), (113, .bool (eqI t1.Op 47))] [[.osl ⟨1, 9⟩ (w2.tokens.map cS)], t1.d] <| spc h rfl (fun g93 h => ?_) fun g93 h => ?_
   ·refine zAF <| zAP <| zBE rfl (by simp [g93]) ?_
    obtain ⟨v95, q96, h⟩ := bs h
    refine cut 153 1 [(0, .mptr 0 0), (3, .mptr 1 0)] [[.osl ⟨1, 9⟩ (v95.tokens.map cS)], t1.d] ?_ ?_
    ·refine st ?_
     simp
     have r102 := (zAC [[115, 105, 103, 110, 97, 116, 117, 114, 101], t1.S, [61]] w2 v95 q96).frame [0] [[.osl ⟨1, 9⟩ (w2.tokens.map cS)], t1.d] (by simp)
     try simp at r102
     refine zAR r102 (by simp) rfl ?_
     simp
    obtain ⟨x97, q98, h⟩ := bs h
    obtain ⟨v99, q100, h⟩ := bs h
    obtain rfl := oi h
    refine st ?_
    simp [q98]
    have r101 := (zAL x97 0 v95 v99 q100).frame [0] [[.osl ⟨1, 9⟩ (v95.tokens.map cS)], t1.d] (by simp)
    try simp [q98] at r101
    refine zAR r101 (by simp [q98]) rfl ?_
    simp [q98]
   refine zEf 153 1 [(0, .mptr 0 0), (3, .mptr 1 0), (5, .int .i64 t1.Op), (113, .bool (eqI t1.Op 64))] [[.osl ⟨1, 9⟩ (w2.tokens.map cS)], t1.d] <| spc h rfl (fun g104 h => ?_) fun g104 h => ?_
   ·have c105 := eqT g104
    obtain ⟨v106, q107, h⟩ := bs h
    refine cut 153 1 [(0, .mptr 0 0), (3, .mptr 1 0)] [[.osl ⟨1, 9⟩ (v106.tokens.map cS)], t1.d] ?_ ?_
    ·refine st ?_
     simp
     have r113 := (zAC [[115, 105, 103, 110, 97, 116, 117, 114, 101], t1.S, [61]] w2 v106 q107).frame [0] [[.osl ⟨1, 9⟩ (w2.tokens.map cS)], t1.d] (by simp)
     try simp at r113
     refine zAR r113 (by simp) rfl ?_
     simp
    obtain ⟨x108, q109, h⟩ := bs h
    obtain ⟨v110, q111, h⟩ := bs h
    obtain rfl := oi h
    refine st ?_
    simp [q109]
    have r112 := (zAL x108 0 v106 v110 q111).frame [0] [[.osl ⟨1, 9⟩ (v106.tokens.map cS)], t1.d] (by simp)
    try simp [q109] at r112
    refine zAR r112 (by simp [q109]) rfl ?_
    simp [q109]
   have c114 := eqF g104
   refine cutA 153 1 [(0, .mptr 0 0), (3, .mptr 1 0), (5, .int .i64 t1.Op), (127, .bool (eqI t1.Op 48))] [[.osl ⟨1, 9⟩ (w2.tokens.map cS)], t1.d] <| spc h rfl (fun g115 h => ?_) fun g115 h => ?_
   ·obtain ⟨v117, q118, h⟩ := bs h
    obtain ⟨v119, q120, h⟩ := bs h
    obtain rfl := oi h
    refine st ?_
    simp
    have r121 := zBk t1.Names v117 q118
    try simp at r121
    refine zAA r121 (by simp) rfl ?_
    simp
    have r122 := (zAC [[111, 112, 101, 110], v117] w2 v119 q120).frame [0] [[.osl ⟨1, 9⟩ (w2.tokens.map cS)], t1.d] (by simp)
    try simp at r122
    refine zAR r122 (by simp) rfl ?_
    simp
   refine cutA 153 1 [(0, .mptr 0 0), (3, .mptr 1 0), (5, .int .i64 t1.Op), (135, .bool (eqI t1.Op 49))] [[.osl ⟨1, 9⟩ (w2.tokens.map cS)], t1.d] <| spc h rfl (fun g124 h => ?_) fun g124 h => ?_
   ·obtain ⟨v126, q127, h⟩ := bs h
    obtain ⟨v128, q129, h⟩ := bs h
    obtain rfl := oi h
    refine st ?_
    simp
    have r130 := zBk t1.Names v126 q127
    try simp at r130
    refine zAA r130 (by simp) rfl ?_
    simp
    have r131 := (zAC [[105, 110, 99, 108, 117, 100, 101], v126] w2 v128 q129).frame [0] [[.osl ⟨1, 9⟩ (w2.tokens.map cS)], t1.d] (by simp)
    try simp at r131
    refine zAR r131 (by simp) rfl ?_
    simp
   refine cutA 153 1 [(0, .mptr 0 0), (3, .mptr 1 0), (143, .bool (eqI t1.Op 50))] [[.osl ⟨1, 9⟩ (w2.tokens.map cS)], t1.d] <| spc h rfl (fun g133 h => ?_) fun g133 h => ?_
   ·obtain ⟨v135, q136, h⟩ := bs h
    refine cut 153 1 [(0, .mptr 0 0), (3, .mptr 1 0)] [[.osl ⟨1, 9⟩ (v135.tokens.map cS)], t1.d] ?_ ?_
    ·refine st ?_
     simp
     have r140 := (zAC [[115, 116, 114, 117, 99, 116, 117, 114, 101], t1.S, [61]] w2 v135 q136).frame [0] [[.osl ⟨1, 9⟩ (w2.tokens.map cS)], t1.d] (by simp)
     try simp at r140
     refine zAR r140 (by simp) rfl ?_
     simp
    obtain ⟨v137, q138, h⟩ := bs h
    obtain rfl := oi h
    refine st ?_
    simp
    have r139 := (zEg t1 v135 v137 q138).frame [0] [[.osl ⟨1, 9⟩ (v135.tokens.map cS)], t1.d] (by simp)
    try simp at r139
    refine zAR r139 (by simp) rfl ?_
    simp
   obtain ⟨v142, q143, h⟩ := bs h
   obtain rfl := oi h
   refine st ?_
   simp
   have r144 := (zFH t1 w2 v142 q143).frame [0] [[.osl ⟨1, 9⟩ (w2.tokens.map cS)], t1.d] (by simp)
   try simp at r144
   refine zAR r144 (by simp) rfl ?_
   simp
  ·intro t1 w2 r h
   rw [zAd] at h
   refine zA6 Tryz.func97 (by rfl) (by rfl) (by simp) (by simp) <| cutA 62 1 [(0, .mptr 0 0), (3, .mptr 1 0)] [[.osl ⟨1, 9⟩ (w2.tokens.map cS)], t1.d] ?_
   obtain ⟨v3, q4, h⟩ := bs h
   refine cut 62 1 [(0, .mptr 0 0), (3, .mptr 1 0), (4, .int .i64 v3)] [[.osl ⟨1, 9⟩ (w2.tokens.map cS)], t1.d] ?_ ?_
   ·refine st ?_
    simp
    have r160 := zFK t1.N v3 q4
    try simp at r160
    refine zAA r160 (by simp) rfl ?_
    simp
   obtain ⟨n5, q6, h⟩ := bs h
   obtain ⟨q7, q8⟩ := zFi q6
   try simp at q7
   try simp at q8
   have c9 := q7; simp only [Rng, inR] at c9
   refine cut 62 1 [(0, .mptr 0 0), (3, .mptr 1 0), (4, .int .i64 v3), (5, .int .i64 v3), (6, .int .i64 n5)] [[.osl ⟨1, 9⟩ (w2.tokens.map cS)], t1.d] (st (by simp [q7, q8])) <| zAM <| cutA 62 1 [(0, .mptr 0 0), (3, .mptr 1 0), (4, .int .i64 v3), (5, .int .i64 v3), (6, .int .i64 n5), (14, .int .i64 t1.N)] [[.osl ⟨1, 9⟩ (w2.tokens.map cS)], t1.d] <| zAU <| cutA 62 1 [(0, .mptr 0 0), (3, .mptr 1 0), (4, .int .i64 v3), (5, .int .i64 v3), (6, .int .i64 n5), (14, .int .i64 t1.N), (15, .bool (eqI t1.N 12))] [[.osl ⟨1, 9⟩ (w2.tokens.map cS)], t1.d] <| spc h rfl (fun g10 h => ?_) fun g10 h => ?_
   ·obtain ⟨v12, q13, h⟩ := bs h
    refine cut 62 1 [(0, .mptr 0 0), (3, .mptr 1 0), (4, .int .i64 v3)] [[.osl ⟨1, 9⟩ (v12.tokens.map cS)], t1.d] ?_ ?_
    ·refine st ?_
     simp
     have r19 := (zAC [[126]] w2 v12 q13).frame [0] [[.osl ⟨1, 9⟩ (w2.tokens.map cS)], t1.d] (by simp)
     try simp at r19
     refine zAR r19 (by simp) rfl ?_
     simp
    obtain ⟨x14, q15, h⟩ := bs h
    obtain ⟨v16, q17, h⟩ := bs h
    refine cut 62 1 [] [[.osl ⟨1, 9⟩ (v16.tokens.map cS)], t1.d] ?_ ?_
    ·refine st ?_
     simp [q15]
     have r18 := (zAL x14 v3 v12 v16 q17).frame [0] [[.osl ⟨1, 9⟩ (v12.tokens.map cS)], t1.d] (by simp)
     try simp [q15] at r18
     refine zAR r18 (by simp [q15]) rfl ?_
     simp [q15]
    refine zAB <| zAJ <| zAE ?_
    obtain rfl := oi h
    simp
   refine zAM <| cutA 62 1 [(0, .mptr 0 0), (3, .mptr 1 0), (4, .int .i64 v3), (5, .int .i64 v3), (6, .int .i64 n5), (14, .int .i64 t1.N), (27, .bool (eqI t1.N 1))] [[.osl ⟨1, 9⟩ (w2.tokens.map cS)], t1.d] <| spc h rfl (fun g21 h => ?_) fun g21 h => ?_
   ·refine zAF <| zAP <| zBE rfl (by simp [g21]) ?_
    have c23 := q7; simp only [Rng, inR] at c23
    refine last 62 1 [(0, .mptr 0 0), (3, .mptr 1 0), (5, .int .i64 n5), (6, .int .i64 v3)] [[.osl ⟨1, 9⟩ (w2.tokens.map cS)], t1.d] (st (by simp [q7, q8])) fun zz hs => ?_
    refine zCx <| zBT ?_ hs
    obtain ⟨x24, q25, h⟩ := bs h
    obtain ⟨v26, q27, h⟩ := bs h
    refine cut 62 1 [(0, .mptr 0 0), (3, .mptr 1 0), (6, .int .i64 v3)] [[.osl ⟨1, 9⟩ (v26.tokens.map cS)], t1.d] ?_ ?_
    ·refine st ?_
     simp [q25]
     have r39 := (zAL x24 n5 w2 v26 q27).frame [0] [[.osl ⟨1, 9⟩ (w2.tokens.map cS)], t1.d] (by simp)
     try simp [q25] at r39
     refine zAR r39 (by simp [q25]) rfl ?_
     simp [q25]
    obtain ⟨v28, q29, h⟩ := bs h
    obtain ⟨v30, q31, h⟩ := bs h
    refine cut 62 1 [(0, .mptr 0 0), (3, .mptr 1 0), (6, .int .i64 v3)] [[.osl ⟨1, 9⟩ (v30.tokens.map cS)], t1.d] ?_ ?_
    ·refine st ?_
     simp
     have r37 := zDP t1.N v28 q29
     try simp at r37
     refine zAA r37 (by simp) rfl ?_
     simp
     have r38 := (zAC [v28] v26 v30 q31).frame [0] [[.osl ⟨1, 9⟩ (v26.tokens.map cS)], t1.d] (by simp)
     try simp at r38
     refine zAR r38 (by simp) rfl ?_
     simp
    obtain ⟨x32, q33, h⟩ := bs h
    obtain ⟨v34, q35, h⟩ := bs h
    obtain rfl := oi h
    refine st ?_
    simp [q33]
    have r36 := (zAL x32 v3 v30 v34 q35).frame [0] [[.osl ⟨1, 9⟩ (v30.tokens.map cS)], t1.d] (by simp)
    try simp [q33] at r36
    refine zAR r36 (by simp [q33]) rfl ?_
    simp [q33]
   refine cutA 62 1 [(0, .mptr 0 0), (3, .mptr 1 0), (4, .int .i64 v3), (5, .int .i64 v3), (6, .int .i64 n5), (14, .int .i64 t1.N), (27, .bool (eqI t1.N 2))] [[.osl ⟨1, 9⟩ (w2.tokens.map cS)], t1.d] <| spc h rfl (fun g41 h => ?_) fun g41 h => ?_
   ·refine zAF <| zAP <| zBE rfl (by simp [g41]) ?_
    have c43 := q7; simp only [Rng, inR] at c43
    refine last 62 1 [(0, .mptr 0 0), (3, .mptr 1 0), (5, .int .i64 n5), (6, .int .i64 v3)] [[.osl ⟨1, 9⟩ (w2.tokens.map cS)], t1.d] (st (by simp [q7, q8])) fun zz hs => ?_
    refine zCx <| zBT ?_ hs
    obtain ⟨x44, q45, h⟩ := bs h
    obtain ⟨v46, q47, h⟩ := bs h
    refine cut 62 1 [(0, .mptr 0 0), (3, .mptr 1 0), (6, .int .i64 v3)] [[.osl ⟨1, 9⟩ (v46.tokens.map cS)], t1.d] ?_ ?_
    ·refine st ?_
     simp [q45]
     have r59 := (zAL x44 n5 w2 v46 q47).frame [0] [[.osl ⟨1, 9⟩ (w2.tokens.map cS)], t1.d] (by simp)
     try simp [q45] at r59
     refine zAR r59 (by simp [q45]) rfl ?_
     simp [q45]
    obtain ⟨v48, q49, h⟩ := bs h
    obtain ⟨v50, q51, h⟩ := bs h
    refine cut 62 1 [(0, .mptr 0 0), (3, .mptr 1 0), (6, .int .i64 v3)] [[.osl ⟨1, 9⟩ (v50.tokens.map cS)], t1.d] ?_ ?_
    ·refine st ?_
     simp
     have r57 := zDP t1.N v48 q49
     try simp at r57
     refine zAA r57 (by simp) rfl ?_
     simp
     have r58 := (zAC [v48] v46 v50 q51).frame [0] [[.osl ⟨1, 9⟩ (v46.tokens.map cS)], t1.d] (by simp)
     try simp at r58
     refine zAR r58 (by simp) rfl ?_
     simp
    obtain ⟨x52, q53, h⟩ := bs h
    obtain ⟨v54, q55, h⟩ := bs h
    obtain rfl := oi h
    refine st ?_
    simp [q53]
    have r56 := (zAL x52 v3 v50 v54 q55).frame [0] [[.osl ⟨1, 9⟩ (v50.tokens.map cS)], t1.d] (by simp)
    try simp [q53] at r56
    refine zAR r56 (by simp [q53]) rfl ?_
    simp [q53]
   refine zEf 62 1 [(0, .mptr 0 0), (3, .mptr 1 0), (4, .int .i64 v3), (5, .int .i64 v3), (6, .int .i64 n5), (14, .int .i64 t1.N), (27, .bool (eqI t1.N 6))] [[.osl ⟨1, 9⟩ (w2.tokens.map cS)], t1.d] <| spc h rfl (fun g61 h => ?_) fun g61 h => ?_
   ·have c62 := eqT g61
    have c63 := q7; simp only [Rng, inR] at c63
    refine last 62 1 [(0, .mptr 0 0), (3, .mptr 1 0), (5, .int .i64 n5), (6, .int .i64 v3)] [[.osl ⟨1, 9⟩ (w2.tokens.map cS)], t1.d] (st (by simp [q7, q8])) fun zz hs => ?_
    refine zCx <| zBT ?_ hs
    obtain ⟨x64, q65, h⟩ := bs h
    obtain ⟨v66, q67, h⟩ := bs h
    refine cut 62 1 [(0, .mptr 0 0), (3, .mptr 1 0), (6, .int .i64 v3)] [[.osl ⟨1, 9⟩ (v66.tokens.map cS)], t1.d] ?_ ?_
    ·refine st ?_
     simp [q65]
     have r79 := (zAL x64 n5 w2 v66 q67).frame [0] [[.osl ⟨1, 9⟩ (w2.tokens.map cS)], t1.d] (by simp)
     try simp [q65] at r79
     refine zAR r79 (by simp [q65]) rfl ?_
     simp [q65]
    obtain ⟨v68, q69, h⟩ := bs h
    obtain ⟨v70, q71, h⟩ := bs h
    refine cut 62 1 [(0, .mptr 0 0), (3, .mptr 1 0), (6, .int .i64 v3)] [[.osl ⟨1, 9⟩ (v70.tokens.map cS)], t1.d] ?_ ?_
    ·refine st ?_
     simp
     have r77 := zDP t1.N v68 q69
     try simp at r77
     refine zAA r77 (by simp) rfl ?_
     simp
     have r78 := (zAC [v68] v66 v70 q71).frame [0] [[.osl ⟨1, 9⟩ (v66.tokens.map cS)], t1.d] (by simp)
     try simp at r78
     refine zAR r78 (by simp) rfl ?_
     simp
    obtain ⟨x72, q73, h⟩ := bs h
    obtain ⟨v74, q75, h⟩ := bs h
    obtain rfl := oi h
    refine st ?_
    simp [q73]
    have r76 := (zAL x72 v3 v70 v74 q75).frame [0] [[.osl ⟨1, 9⟩ (v70.tokens.map cS)], t1.d] (by simp)
    try simp [q73] at r76
    refine zAR r76 (by simp [q73]) rfl ?_
    simp [q73]
   have c80 := eqF g61
   refine zAM <| cutA 62 1 [(0, .mptr 0 0), (3, .mptr 1 0), (4, .int .i64 v3), (5, .int .i64 v3), (6, .int .i64 n5), (14, .int .i64 t1.N), (34, .bool (eqI t1.N 3))] [[.osl ⟨1, 9⟩ (w2.tokens.map cS)], t1.d] <| spc h rfl (fun g81 h => ?_) fun g81 h => ?_
   ·refine zAF <| zAP <| zBE rfl (by simp [g81]) ?_
    have c83 := q7; simp only [Rng, inR] at c83
    have c84 := q7; simp only [Rng, inR] at c84
    refine last 62 1 [(0, .mptr 0 0), (3, .mptr 1 0), (5, .int .i64 n5), (6, .int .i64 n5)] [[.osl ⟨1, 9⟩ (w2.tokens.map cS)], t1.d] (st (by simp [q7, q8])) fun zz hs => ?_
    refine zCx <| zBT ?_ hs
    obtain ⟨x85, q86, h⟩ := bs h
    obtain ⟨v87, q88, h⟩ := bs h
    refine cut 62 1 [(0, .mptr 0 0), (3, .mptr 1 0), (6, .int .i64 n5)] [[.osl ⟨1, 9⟩ (v87.tokens.map cS)], t1.d] ?_ ?_
    ·refine st ?_
     simp [q86]
     have r100 := (zAL x85 n5 w2 v87 q88).frame [0] [[.osl ⟨1, 9⟩ (w2.tokens.map cS)], t1.d] (by simp)
     try simp [q86] at r100
     refine zAR r100 (by simp [q86]) rfl ?_
     simp [q86]
    obtain ⟨v89, q90, h⟩ := bs h
    obtain ⟨v91, q92, h⟩ := bs h
    refine cut 62 1 [(0, .mptr 0 0), (3, .mptr 1 0), (6, .int .i64 n5)] [[.osl ⟨1, 9⟩ (v91.tokens.map cS)], t1.d] ?_ ?_
    ·refine st ?_
     simp
     have r98 := zDP t1.N v89 q90
     try simp at r98
     refine zAA r98 (by simp) rfl ?_
     simp
     have r99 := (zAC [v89] v87 v91 q92).frame [0] [[.osl ⟨1, 9⟩ (v87.tokens.map cS)], t1.d] (by simp)
     try simp at r99
     refine zAR r99 (by simp) rfl ?_
     simp
    obtain ⟨x93, q94, h⟩ := bs h
    obtain ⟨v95, q96, h⟩ := bs h
    obtain rfl := oi h
    refine st ?_
    simp [q94]
    have r97 := (zAL x93 n5 v91 v95 q96).frame [0] [[.osl ⟨1, 9⟩ (v91.tokens.map cS)], t1.d] (by simp)
    try simp [q94] at r97
    refine zAR r97 (by simp [q94]) rfl ?_
    simp [q94]
   refine cutA 62 1 [(0, .mptr 0 0), (3, .mptr 1 0), (4, .int .i64 v3), (5, .int .i64 v3), (6, .int .i64 n5), (14, .int .i64 t1.N), (34, .bool (eqI t1.N 4))] [[.osl ⟨1, 9⟩ (w2.tokens.map cS)], t1.d] <| spc h rfl (fun g102 h => ?_) fun g102 h => ?_
   ·refine zAF <| zAP <| zBE rfl (by simp [g102]) ?_
    have c104 := q7; simp only [Rng, inR] at c104
    have c105 := q7; simp only [Rng, inR] at c105
    refine last 62 1 [(0, .mptr 0 0), (3, .mptr 1 0), (5, .int .i64 n5), (6, .int .i64 n5)] [[.osl ⟨1, 9⟩ (w2.tokens.map cS)], t1.d] (st (by simp [q7, q8])) fun zz hs => ?_
    refine zCx <| zBT ?_ hs
    obtain ⟨x106, q107, h⟩ := bs h
    obtain ⟨v108, q109, h⟩ := bs h
    refine cut 62 1 [(0, .mptr 0 0), (3, .mptr 1 0), (6, .int .i64 n5)] [[.osl ⟨1, 9⟩ (v108.tokens.map cS)], t1.d] ?_ ?_
    ·refine st ?_
     simp [q107]
     have r121 := (zAL x106 n5 w2 v108 q109).frame [0] [[.osl ⟨1, 9⟩ (w2.tokens.map cS)], t1.d] (by simp)
     try simp [q107] at r121
     refine zAR r121 (by simp [q107]) rfl ?_
     simp [q107]
    obtain ⟨v110, q111, h⟩ := bs h
    obtain ⟨v112, q113, h⟩ := bs h
    refine cut 62 1 [(0, .mptr 0 0), (3, .mptr 1 0), (6, .int .i64 n5)] [[.osl ⟨1, 9⟩ (v112.tokens.map cS)], t1.d] ?_ ?_
    ·refine st ?_
     simp
     have r119 := zDP t1.N v110 q111
     try simp at r119
     refine zAA r119 (by simp) rfl ?_
     simp
     have r120 := (zAC [v110] v108 v112 q113).frame [0] [[.osl ⟨1, 9⟩ (v108.tokens.map cS)], t1.d] (by simp)
     try simp at r120
     refine zAR r120 (by simp) rfl ?_
     simp
    obtain ⟨x114, q115, h⟩ := bs h
    obtain ⟨v116, q117, h⟩ := bs h
    obtain rfl := oi h
    refine st ?_
    simp [q115]
    have r118 := (zAL x114 n5 v112 v116 q117).frame [0] [[.osl ⟨1, 9⟩ (v112.tokens.map cS)], t1.d] (by simp)
    try simp [q115] at r118
    refine zAR r118 (by simp [q115]) rfl ?_
    simp [q115]
   refine zEf 62 1 [(0, .mptr 0 0), (3, .mptr 1 0), (4, .int .i64 v3), (5, .int .i64 v3), (6, .int .i64 n5), (34, .bool (eqI t1.N 5))] [[.osl ⟨1, 9⟩ (w2.tokens.map cS)], t1.d] <| spc h rfl (fun g123 h => ?_) fun g123 h => ?_
   ·have c124 := eqT g123
    have c125 := q7; simp only [Rng, inR] at c125
    have c126 := q7; simp only [Rng, inR] at c126
    refine last 62 1 [(0, .mptr 0 0), (3, .mptr 1 0), (5, .int .i64 n5), (6, .int .i64 n5)] [[.osl ⟨1, 9⟩ (w2.tokens.map cS)], t1.d] (st (by simp [q7, q8])) fun zz hs => ?_
    refine zCx <| zBT ?_ hs
    obtain ⟨x127, q128, h⟩ := bs h
    obtain ⟨v129, q130, h⟩ := bs h
    refine cut 62 1 [(0, .mptr 0 0), (3, .mptr 1 0), (6, .int .i64 n5)] [[.osl ⟨1, 9⟩ (v129.tokens.map cS)], t1.d] ?_ ?_
    ·refine st ?_
     simp [q128]
     have r142 := (zAL x127 n5 w2 v129 q130).frame [0] [[.osl ⟨1, 9⟩ (w2.tokens.map cS)], t1.d] (by simp)
     try simp [q128] at r142
     refine zAR r142 (by simp [q128]) rfl ?_
     simp [q128]
    obtain ⟨v131, q132, h⟩ := bs h
    obtain ⟨v133, q134, h⟩ := bs h
    refine cut 62 1 [(0, .mptr 0 0), (3, .mptr 1 0), (6, .int .i64 n5)] [[.osl ⟨1, 9⟩ (v133.tokens.map cS)], t1.d] ?_ ?_
    ·refine st ?_
     simp
     have r140 := zDP t1.N v131 q132
     try simp at r140
     refine zAA r140 (by simp) rfl ?_
     simp
     have r141 := (zAC [v131] v129 v133 q134).frame [0] [[.osl ⟨1, 9⟩ (v129.tokens.map cS)], t1.d] (by simp)
     try simp at r141
     refine zAR r141 (by simp) rfl ?_
     simp
    obtain ⟨x135, q136, h⟩ := bs h
    obtain ⟨v137, q138, h⟩ := bs h
    obtain rfl := oi h
    refine st ?_
    simp [q136]
    have r139 := (zAL x135 n5 v133 v137 q138).frame [0] [[.osl ⟨1, 9⟩ (v133.tokens.map cS)], t1.d] (by simp)
    try simp [q136] at r139
    refine zAR r139 (by simp [q136]) rfl ?_
    simp [q136]
   have c143 := eqF g123
   refine zAF <| zCx <| zAP ?_
   obtain ⟨x144, q145, h⟩ := bs h
   obtain ⟨v146, q147, h⟩ := bs h
   refine cut 62 1 [(0, .mptr 0 0), (3, .mptr 1 0), (6, .int .i64 n5)] [[.osl ⟨1, 9⟩ (v146.tokens.map cS)], t1.d] ?_ ?_
   ·refine st ?_
    simp [q145]
    have r159 := (zAL x144 v3 w2 v146 q147).frame [0] [[.osl ⟨1, 9⟩ (w2.tokens.map cS)], t1.d] (by simp)
    try simp [q145] at r159
    refine zAR r159 (by simp [q145]) rfl ?_
    simp [q145]
   obtain ⟨v148, q149, h⟩ := bs h
   obtain ⟨v150, q151, h⟩ := bs h
   refine cut 62 1 [(0, .mptr 0 0), (3, .mptr 1 0), (6, .int .i64 n5)] [[.osl ⟨1, 9⟩ (v150.tokens.map cS)], t1.d] ?_ ?_
   ·refine st ?_
    simp
    have r157 := zDP t1.N v148 q149
    try simp at r157
    refine zAA r157 (by simp) rfl ?_
    simp
    have r158 := (zAC [v148] v146 v150 q151).frame [0] [[.osl ⟨1, 9⟩ (v146.tokens.map cS)], t1.d] (by simp)
    try simp at r158
    refine zAR r158 (by simp) rfl ?_
    simp
   obtain ⟨x152, q153, h⟩ := bs h
   obtain ⟨v154, q155, h⟩ := bs h
   obtain rfl := oi h
   refine st ?_
   simp [q153]
   have r156 := (zAL x152 n5 v150 v154 q155).frame [0] [[.osl ⟨1, 9⟩ (v150.tokens.map cS)], t1.d] (by simp)
   try simp [q153] at r156
   refine zAR r156 (by simp [q153]) rfl ?_
   simp [q153]
  ·intro t1 w2 r h
   rw [zAI] at h
   refine zA6 Tryz.func65 (by rfl) (by rfl) (by simp) (by simp) <| cutA 179 1 [(0, .mptr 0 0), (3, .mptr 1 0)] [[.osl ⟨1, 9⟩ (w2.tokens.map cS)], t1.d] <| cutA 179 1 [(0, .mptr 0 0), (3, .mptr 1 0), (8, .int .i64 t1.Op)] [[.osl ⟨1, 9⟩ (w2.tokens.map cS)], t1.d] <| zAU <| cutA 179 1 [(0, .mptr 0 0), (3, .mptr 1 0), (8, .int .i64 t1.Op), (12, .bool (eqI t1.Op 25))] [[.osl ⟨1, 9⟩ (w2.tokens.map cS)], t1.d] <| spc h rfl (fun g3 h => ?_) fun g3 h => ?_
   ·refine zAM <| cutA 179 1 [(0, .mptr 0 0), (3, .mptr 1 0), (16, .bool (eqS t1.S ([] : List UInt8)))] [[.osl ⟨1, 9⟩ (w2.tokens.map cS)], t1.d] <| spc h rfl (fun g5 h => ?_) fun g5 h => ?_
    ·obtain ⟨l6, q7, h⟩ := bs h
     obtain ⟨q8, q9⟩ := zD6 q7
     obtain ⟨v10, q11, h⟩ := bs h
     refine last 179 1 [(0, .mptr 0 0), (3, .mptr 1 0)] [[.osl ⟨1, 9⟩ (v10.tokens.map cS)], t1.d] ?_ fun zz hs => ?_
     ·refine st ?_
      simp [q8, q9]
      have r17 := (zAC l6 w2 v10 q11).frame [0] [[.osl ⟨1, 9⟩ (w2.tokens.map cS)], t1.d] (by simp)
      try simp [q8, q9] at r17
      refine zAR r17 (by simp [q8, q9]) rfl ?_
      simp [q8, q9]
     refine zBT ?_ hs
     obtain ⟨x12, q13, h⟩ := bs h
     obtain ⟨v14, q15, h⟩ := bs h
     obtain rfl := oi h
     refine st ?_
     simp [q13]
     have r16 := (zAL x12 0 v10 v14 q15).frame [0] [[.osl ⟨1, 9⟩ (v10.tokens.map cS)], t1.d] (by simp)
     try simp [q13] at r16
     refine zAR r16 (by simp [q13]) rfl ?_
     simp [q13]
    obtain ⟨v18, q19, h⟩ := bs h
    refine last 179 1 [(0, .mptr 0 0), (3, .mptr 1 0)] [[.osl ⟨1, 9⟩ (v18.tokens.map cS)], t1.d] ?_ fun zz hs => ?_
    ·refine st ?_
     simp
     have r25 := (zAC [[102, 110], t1.S, [61, 62]] w2 v18 q19).frame [0] [[.osl ⟨1, 9⟩ (w2.tokens.map cS)], t1.d] (by simp)
     try simp at r25
     refine zAR r25 (by simp) rfl ?_
     simp
    refine zBT ?_ hs
    obtain ⟨x20, q21, h⟩ := bs h
    obtain ⟨v22, q23, h⟩ := bs h
    obtain rfl := oi h
    refine st ?_
    simp [q21]
    have r24 := (zAL x20 0 v18 v22 q23).frame [0] [[.osl ⟨1, 9⟩ (v18.tokens.map cS)], t1.d] (by simp)
    try simp [q21] at r24
    refine zAR r24 (by simp [q21]) rfl ?_
    simp [q21]
   refine cutA 179 1 [(0, .mptr 0 0), (3, .mptr 1 0), (8, .int .i64 t1.Op), (31, .bool (eqI t1.Op 26))] [[.osl ⟨1, 9⟩ (w2.tokens.map cS)], t1.d] <| spc h rfl (fun g27 h => ?_) fun g27 h => ?_
   ·obtain ⟨x29, q30, h⟩ := bs h
    obtain ⟨v31, q32, h⟩ := bs h
    refine cut 179 1 [(0, .mptr 0 0), (3, .mptr 1 0)] [[.osl ⟨1, 9⟩ (v31.tokens.map cS)], t1.d] ?_ ?_
    ·refine st ?_
     simp [q30]
     have r38 := (zAL x29 8 w2 v31 q32).frame [0] [[.osl ⟨1, 9⟩ (w2.tokens.map cS)], t1.d] (by simp)
     try simp [q30] at r38
     refine zAR r38 (by simp [q30]) rfl ?_
     simp [q30]
    obtain ⟨x33, q34, h⟩ := bs h
    obtain ⟨v35, q36, h⟩ := bs h
    obtain rfl := oi h
    refine st ?_
    simp [q34]
    have r37 := (zAL x33 9 v31 v35 q36).frame [0] [[.osl ⟨1, 9⟩ (v31.tokens.map cS)], t1.d] (by simp)
    try simp [q34] at r37
    refine zAR r37 (by simp [q34]) rfl ?_
    simp [q34]
   refine cutA 179 1 [(0, .mptr 0 0), (3, .mptr 1 0), (8, .int .i64 t1.Op), (45, .bool (eqI t1.Op 28))] [[.osl ⟨1, 9⟩ (w2.tokens.map cS)], t1.d] <| spc h rfl (fun g40 h => ?_) fun g40 h => ?_
   ·obtain ⟨l42, q43, h⟩ := bs h
    obtain ⟨q44, q45⟩ := zD6 q43
    refine cut 179 1 [(0, .mptr 0 0), (3, .mptr 1 0), (47, .osl ⟨1, 9⟩ (l42.map cS)), (48, .int .i64 l42.length), (49, .int .i64 0)] [[.osl ⟨1, 9⟩ (w2.tokens.map cS)], t1.d] (st (by simp [q44, q45])) <| zAU ?_
    obtain ⟨o48, l49, h⟩ := bs h
    refine zB2 (fun p : Nat × (List (List UInt8)) × Nat => mkS 179 1 [(0, .mptr 0 0), (3, .mptr 1 0), (47, .osl ⟨1, 9⟩ (l42.map cS)), (48, .int .i64 l42.length), (49, .int .i64 p.2.2)] [[.osl ⟨1, 9⟩ (p.2.1.map cS)], t1.d]) (fun p => zAs (zAK fuel) t1 l42 p.1 p.2.1 p.2.2 = some o48) (fun p => p.1) (fuel, w2.tokens, 0) l49 (zBS (by simp)) ?_
    rintro ⟨k50, tokens46, i47⟩ l49
    dsimp only at l49 ⊢
    cases k50 with
    | zero =>
     rw [zAs] at l49; cases l49
    | succ k51 =>
     rw [zAs] at l49
     refine cutA 179 1 [(0, .mptr 0 0), (3, .mptr 1 0), (47, .osl ⟨1, 9⟩ (l42.map cS)), (48, .int .i64 l42.length), (49, .int .i64 i47), (50, .bool (ltI ((i47 : Nat) : Int) (l42.length : Int)))] [[.osl ⟨1, 9⟩ (tokens46.map cS)], t1.d] <| zAM <| spc l49 rfl (fun g52 l49 => ?_) fun g52 l49 => ?_
     ·have c53 := ltT g52
      refine zD3 47 rfl fun f54 => ?_
      rw [List.length_map] at f54
      refine zAF <| zAP <| zAM <| zAU ?_
      obtain ⟨x55, q56, l49⟩ := bs l49
      refine cut 179 1 [(0, .mptr 0 0), (3, .mptr 1 0), (4, .int .i64 i47), (5, .str x55), (47, .osl ⟨1, 9⟩ (l42.map cS)), (48, .int .i64 l42.length), (49, .int .i64 i47)] [[.osl ⟨1, 9⟩ (tokens46.map cS)], t1.d] (st (by simp [q56])) ?_
      obtain ⟨v57, q58, l49⟩ := bs l49
      refine cut 179 1 [(0, .mptr 0 0), (3, .mptr 1 0), (4, .int .i64 i47), (47, .osl ⟨1, 9⟩ (l42.map cS)), (48, .int .i64 l42.length), (49, .int .i64 i47)] [[.osl ⟨1, 9⟩ (v57.tokens.map cS)], t1.d] ?_ ?_
      ·refine st ?_
       simp
       have r65 := (zAC [x55] (zI9.mk tokens46) v57 q58).frame [0] [[.osl ⟨1, 9⟩ (tokens46.map cS)], t1.d] (by simp)
       try simp at r65
       refine zAR r65 (by simp) rfl ?_
       simp
      obtain ⟨x59, q60, l49⟩ := bs l49
      obtain ⟨v61, q62, l49⟩ := bs l49
      refine last 179 1 [(0, .mptr 0 0), (3, .mptr 1 0), (47, .osl ⟨1, 9⟩ (l42.map cS)), (48, .int .i64 l42.length), (49, .int .i64 i47)] [[.osl ⟨1, 9⟩ (v61.tokens.map cS)], t1.d] ?_ fun zz hs => ?_
      ·refine st ?_
       simp [q60]
       have r64 := (zAL x59 0 v57 v61 q62).frame [0] [[.osl ⟨1, 9⟩ (v57.tokens.map cS)], t1.d] (by simp)
       try simp [q60] at r64
       refine zAR r64 (by simp [q60]) rfl ?_
       simp [q60]
      refine zCx <| zBT ?_ hs
      have q63 : Rng .i64 (((i47 : Nat) : Int) + 1) := by simp only [Rng, inR]; omega
      try simp at q63
      refine last 179 1 [(0, .mptr 0 0), (3, .mptr 1 0), (47, .osl ⟨1, 9⟩ (l42.map cS)), (48, .int .i64 l42.length), (49, .int .i64 ((i47 + 1 : Nat) : Int))] [[.osl ⟨1, 9⟩ (v61.tokens.map cS)], t1.d] (st (by simp [q63])) fun zz hs => ?_
      exact ⟨(k51, v61.tokens, i47 + 1), hs, l49, by simp⟩
     have c66 := ltF g52
     refine zD3 47 rfl fun f67 => ?_
     rw [List.length_map] at f67
     refine zBR <| zAc ?_
     have q68 := Option.some.inj l49
     have q68 := q68.symm
     refine zAc <| zBQ <| zCx ?_
     obtain rfl := oi h
     simp [q68]
   refine cutA 179 1 [(0, .mptr 0 0), (3, .mptr 1 0), (8, .int .i64 t1.Op), (66, .bool (eqI t1.Op 29))] [[.osl ⟨1, 9⟩ (w2.tokens.map cS)], t1.d] <| spc h rfl (fun g70 h => ?_) fun g70 h => ?_
   ·obtain ⟨v72, q73, h⟩ := bs h
    refine cut 179 1 [(0, .mptr 0 0), (3, .mptr 1 0)] [[.osl ⟨1, 9⟩ (v72.tokens.map cS)], t1.d] ?_ ?_
    ·refine st ?_
     simp
     have r92 := (zAC [[99, 97, 115, 101]] w2 v72 q73).frame [0] [[.osl ⟨1, 9⟩ (w2.tokens.map cS)], t1.d] (by simp)
     try simp at r92
     refine zAR r92 (by simp) rfl ?_
     simp
    obtain ⟨x74, q75, h⟩ := bs h
    obtain ⟨v76, q77, h⟩ := bs h
    refine cut 179 1 [(0, .mptr 0 0), (3, .mptr 1 0)] [[.osl ⟨1, 9⟩ (v76.tokens.map cS)], t1.d] ?_ ?_
    ·refine st ?_
     simp [q75]
     have r91 := (zAL x74 0 v72 v76 q77).frame [0] [[.osl ⟨1, 9⟩ (v72.tokens.map cS)], t1.d] (by simp)
     try simp [q75] at r91
     refine zAR r91 (by simp [q75]) rfl ?_
     simp [q75]
    obtain ⟨v78, q79, h⟩ := bs h
    refine cut 179 1 [(0, .mptr 0 0), (3, .mptr 1 0)] [[.osl ⟨1, 9⟩ (v78.tokens.map cS)], t1.d] ?_ ?_
    ·refine st ?_
     simp
     have r90 := (zAC [[111, 102]] v76 v78 q79).frame [0] [[.osl ⟨1, 9⟩ (v76.tokens.map cS)], t1.d] (by simp)
     try simp at r90
     refine zAR r90 (by simp) rfl ?_
     simp
    obtain ⟨l80, q81, h⟩ := bs h
    obtain ⟨q82, q83⟩ := zEW q81
    try simp at q82
    try simp at q83
    obtain ⟨v84, q85, h⟩ := bs h
    refine cut 179 1 [(0, .mptr 0 0)] [[.osl ⟨1, 9⟩ (v84.tokens.map cS)], t1.d] ?_ ?_
    ·refine st ?_
     simp [q82, q83]
     have r89 := (zBF l80 0 [124] v78 v84 q85).frame [0] [[.osl ⟨1, 9⟩ (v78.tokens.map cS)], t1.d] (by simp)
     try simp [q82, q83] at r89
     refine zAR r89 (by simp [q82, q83]) rfl ?_
     simp [q82, q83]
    obtain ⟨v86, q87, h⟩ := bs h
    obtain rfl := oi h
    refine st ?_
    simp
    have r88 := (zAC [[101, 110, 100]] v84 v86 q87).frame [0] [[.osl ⟨1, 9⟩ (v84.tokens.map cS)], t1.d] (by simp)
    try simp at r88
    refine zAR r88 (by simp) rfl ?_
    simp
   refine cutA 179 1 [(0, .mptr 0 0), (3, .mptr 1 0), (8, .int .i64 t1.Op), (88, .bool (eqI t1.Op 30))] [[.osl ⟨1, 9⟩ (w2.tokens.map cS)], t1.d] <| spc h rfl (fun g94 h => ?_) fun g94 h => ?_
   ·obtain ⟨x96, q97, h⟩ := bs h
    obtain ⟨v98, q99, h⟩ := bs h
    refine cut 179 1 [(0, .mptr 0 0), (3, .mptr 1 0)] [[.osl ⟨1, 9⟩ (v98.tokens.map cS)], t1.d] ?_ ?_
    ·refine st ?_
     simp [q97]
     have r108 := (zAL x96 0 w2 v98 q99).frame [0] [[.osl ⟨1, 9⟩ (w2.tokens.map cS)], t1.d] (by simp)
     try simp [q97] at r108
     refine zAR r108 (by simp [q97]) rfl ?_
     simp [q97]
    obtain ⟨v100, q101, h⟩ := bs h
    refine cut 179 1 [(0, .mptr 0 0), (3, .mptr 1 0)] [[.osl ⟨1, 9⟩ (v100.tokens.map cS)], t1.d] ?_ ?_
    ·refine st ?_
     simp
     have r107 := (zAC [[61, 62]] v98 v100 q101).frame [0] [[.osl ⟨1, 9⟩ (v98.tokens.map cS)], t1.d] (by simp)
     try simp at r107
     refine zAR r107 (by simp) rfl ?_
     simp
    obtain ⟨x102, q103, h⟩ := bs h
    obtain ⟨v104, q105, h⟩ := bs h
    obtain rfl := oi h
    refine st ?_
    simp [q103]
    have r106 := (zAL x102 0 v100 v104 q105).frame [0] [[.osl ⟨1, 9⟩ (v100.tokens.map cS)], t1.d] (by simp)
    try simp [q103] at r106
    refine zAR r106 (by simp [q103]) rfl ?_
    simp [q103]
   refine zAM <| cutA 179 1 [(0, .mptr 0 0), (3, .mptr 1 0), (8, .int .i64 t1.Op), (105, .bool (eqI t1.Op 31))] [[.osl ⟨1, 9⟩ (w2.tokens.map cS)], t1.d] <| spc h rfl (fun g110 h => ?_) fun g110 h => ?_
   ·refine zAF <| zAP <| zBE rfl (by simp [g110]) ?_
    obtain ⟨n112, q113, h⟩ := bs h
    obtain ⟨q114, q115⟩ := zFi q113
    try simp at q114
    try simp at q115
    have c116 := q114; simp only [Rng, inR] at c116
    refine cut 179 1 [(0, .mptr 0 0), (3, .mptr 1 0), (6, .int .i64 n112)] [[.osl ⟨1, 9⟩ (w2.tokens.map cS)], t1.d] (st (by simp [q114, q115])) ?_
    obtain ⟨v117, q118, h⟩ := bs h
    refine cut 179 1 [(0, .mptr 0 0), (3, .mptr 1 0), (6, .int .i64 n112)] [[.osl ⟨1, 9⟩ (v117.tokens.map cS)], t1.d] ?_ ?_
    ·refine st ?_
     simp
     have r139 := (zAC [[108, 101, 116]] w2 v117 q118).frame [0] [[.osl ⟨1, 9⟩ (w2.tokens.map cS)], t1.d] (by simp)
     try simp at r139
     refine zAR r139 (by simp) rfl ?_
     simp
    obtain ⟨l119, q120, h⟩ := bs h
    obtain ⟨q121, q122⟩ := zEW q120
    try simp at q121
    try simp at q122
    obtain ⟨v123, q124, h⟩ := bs h
    refine cut 179 1 [(0, .mptr 0 0), (3, .mptr 1 0), (6, .int .i64 n112)] [[.osl ⟨1, 9⟩ (v123.tokens.map cS)], t1.d] ?_ ?_
    ·refine st ?_
     simp [q121, q122]
     have r138 := (zBF l119 0 ([] : List UInt8) v117 v123 q124).frame [0] [[.osl ⟨1, 9⟩ (v117.tokens.map cS)], t1.d] (by simp)
     try simp [q121, q122] at r138
     refine zAR r138 (by simp [q121, q122]) rfl ?_
     simp [q121, q122]
    obtain ⟨v125, q126, h⟩ := bs h
    refine cut 179 1 [(0, .mptr 0 0), (3, .mptr 1 0), (6, .int .i64 n112)] [[.osl ⟨1, 9⟩ (v125.tokens.map cS)], t1.d] ?_ ?_
    ·refine st ?_
     simp
     have r137 := (zAC [[105, 110]] v123 v125 q126).frame [0] [[.osl ⟨1, 9⟩ (v123.tokens.map cS)], t1.d] (by simp)
     try simp at r137
     refine zAR r137 (by simp) rfl ?_
     simp
    obtain ⟨x127, q128, h⟩ := bs h
    obtain ⟨q129, q130⟩ := idx_ok q128
    obtain ⟨v131, q132, h⟩ := bs h
    refine cut 179 1 [(0, .mptr 0 0)] [[.osl ⟨1, 9⟩ (v131.tokens.map cS)], t1.d] ?_ ?_
    ·refine st ?_
     simp [q129, q130]
     have r136 := (zAL x127 0 v125 v131 q132).frame [0] [[.osl ⟨1, 9⟩ (v125.tokens.map cS)], t1.d] (by simp)
     try simp [q129, q130] at r136
     refine zAR r136 (by simp [q129, q130]) rfl ?_
     simp [q129, q130]
    obtain ⟨v133, q134, h⟩ := bs h
    obtain rfl := oi h
    refine st ?_
    simp
    have r135 := (zAC [[101, 110, 100]] v131 v133 q134).frame [0] [[.osl ⟨1, 9⟩ (v131.tokens.map cS)], t1.d] (by simp)
    try simp at r135
    refine zAR r135 (by simp) rfl ?_
    simp
   refine zEf 179 1 [(0, .mptr 0 0), (3, .mptr 1 0), (8, .int .i64 t1.Op), (105, .bool (eqI t1.Op 87))] [[.osl ⟨1, 9⟩ (w2.tokens.map cS)], t1.d] <| spc h rfl (fun g141 h => ?_) fun g141 h => ?_
   ·have c142 := eqT g141
    obtain ⟨n143, q144, h⟩ := bs h
    obtain ⟨q145, q146⟩ := zFi q144
    try simp at q145
    try simp at q146
    have c147 := q145; simp only [Rng, inR] at c147
    refine cut 179 1 [(0, .mptr 0 0), (3, .mptr 1 0), (6, .int .i64 n143)] [[.osl ⟨1, 9⟩ (w2.tokens.map cS)], t1.d] (st (by simp [q145, q146])) ?_
    obtain ⟨v148, q149, h⟩ := bs h
    refine cut 179 1 [(0, .mptr 0 0), (3, .mptr 1 0), (6, .int .i64 n143)] [[.osl ⟨1, 9⟩ (v148.tokens.map cS)], t1.d] ?_ ?_
    ·refine st ?_
     simp
     have r170 := (zAC [[108, 101, 116]] w2 v148 q149).frame [0] [[.osl ⟨1, 9⟩ (w2.tokens.map cS)], t1.d] (by simp)
     try simp at r170
     refine zAR r170 (by simp) rfl ?_
     simp
    obtain ⟨l150, q151, h⟩ := bs h
    obtain ⟨q152, q153⟩ := zEW q151
    try simp at q152
    try simp at q153
    obtain ⟨v154, q155, h⟩ := bs h
    refine cut 179 1 [(0, .mptr 0 0), (3, .mptr 1 0), (6, .int .i64 n143)] [[.osl ⟨1, 9⟩ (v154.tokens.map cS)], t1.d] ?_ ?_
    ·refine st ?_
     simp [q152, q153]
     have r169 := (zBF l150 0 ([] : List UInt8) v148 v154 q155).frame [0] [[.osl ⟨1, 9⟩ (v148.tokens.map cS)], t1.d] (by simp)
     try simp [q152, q153] at r169
     refine zAR r169 (by simp [q152, q153]) rfl ?_
     simp [q152, q153]
    obtain ⟨v156, q157, h⟩ := bs h
    refine cut 179 1 [(0, .mptr 0 0), (3, .mptr 1 0), (6, .int .i64 n143)] [[.osl ⟨1, 9⟩ (v156.tokens.map cS)], t1.d] ?_ ?_
    ·refine st ?_
     simp
     have r168 := (zAC [[105, 110]] v154 v156 q157).frame [0] [[.osl ⟨1, 9⟩ (v154.tokens.map cS)], t1.d] (by simp)
     try simp at r168
     refine zAR r168 (by simp) rfl ?_
     simp
    obtain ⟨x158, q159, h⟩ := bs h
    obtain ⟨q160, q161⟩ := idx_ok q159
    obtain ⟨v162, q163, h⟩ := bs h
    refine cut 179 1 [(0, .mptr 0 0)] [[.osl ⟨1, 9⟩ (v162.tokens.map cS)], t1.d] ?_ ?_
    ·refine st ?_
     simp [q160, q161]
     have r167 := (zAL x158 0 v156 v162 q163).frame [0] [[.osl ⟨1, 9⟩ (v156.tokens.map cS)], t1.d] (by simp)
     try simp [q160, q161] at r167
     refine zAR r167 (by simp [q160, q161]) rfl ?_
     simp [q160, q161]
    obtain ⟨v164, q165, h⟩ := bs h
    obtain rfl := oi h
    refine st ?_
    simp
    have r166 := (zAC [[101, 110, 100]] v162 v164 q165).frame [0] [[.osl ⟨1, 9⟩ (v162.tokens.map cS)], t1.d] (by simp)
    try simp at r166
    refine zAR r166 (by simp) rfl ?_
    simp
   have c171 := eqF g141
   refine cutA 179 1 [(0, .mptr 0 0), (3, .mptr 1 0), (8, .int .i64 t1.Op), (134, .bool (eqI t1.Op 32))] [[.osl ⟨1, 9⟩ (w2.tokens.map cS)], t1.d] <| spc h rfl (fun g172 h => ?_) fun g172 h => ?_
   ·obtain ⟨v174, q175, h⟩ := bs h
    obtain rfl := oi h
    refine st ?_
    simp
    have r176 := (zFI t1 w2 v174 q175).frame [0] [[.osl ⟨1, 9⟩ (w2.tokens.map cS)], t1.d] (by simp)
    try simp at r176
    refine zAR r176 (by simp) rfl ?_
    simp
   refine cutA 179 1 [(0, .mptr 0 0), (3, .mptr 1 0), (8, .int .i64 t1.Op), (139, .bool (eqI t1.Op 33))] [[.osl ⟨1, 9⟩ (w2.tokens.map cS)], t1.d] <| spc h rfl (fun g178 h => ?_) fun g178 h => ?_
   ·obtain ⟨v180, q181, h⟩ := bs h
    refine cut 179 1 [(0, .mptr 0 0), (3, .mptr 1 0)] [[.osl ⟨1, 9⟩ (v180.tokens.map cS)], t1.d] ?_ ?_
    ·refine st ?_
     simp
     have r198 := (zAC [[40]] w2 v180 q181).frame [0] [[.osl ⟨1, 9⟩ (w2.tokens.map cS)], t1.d] (by simp)
     try simp at r198
     refine zAR r198 (by simp) rfl ?_
     simp
    obtain ⟨x182, q183, h⟩ := bs h
    obtain ⟨v184, q185, h⟩ := bs h
    refine cut 179 1 [(0, .mptr 0 0), (3, .mptr 1 0)] [[.osl ⟨1, 9⟩ (v184.tokens.map cS)], t1.d] ?_ ?_
    ·refine st ?_
     simp [q183]
     have r197 := (zAL x182 0 v180 v184 q185).frame [0] [[.osl ⟨1, 9⟩ (v180.tokens.map cS)], t1.d] (by simp)
     try simp [q183] at r197
     refine zAR r197 (by simp [q183]) rfl ?_
     simp [q183]
    obtain ⟨v186, q187, h⟩ := bs h
    refine cut 179 1 [(0, .mptr 0 0), (3, .mptr 1 0)] [[.osl ⟨1, 9⟩ (v186.tokens.map cS)], t1.d] ?_ ?_
    ·refine st ?_
     simp
     have r196 := (zAC [[58]] v184 v186 q187).frame [0] [[.osl ⟨1, 9⟩ (v184.tokens.map cS)], t1.d] (by simp)
     try simp at r196
     refine zAR r196 (by simp) rfl ?_
     simp
    obtain ⟨x188, q189, h⟩ := bs h
    obtain ⟨v190, q191, h⟩ := bs h
    refine cut 179 1 [(0, .mptr 0 0)] [[.osl ⟨1, 9⟩ (v190.tokens.map cS)], t1.d] ?_ ?_
    ·refine st ?_
     simp [q189]
     have r195 := (zAL x188 0 v186 v190 q191).frame [0] [[.osl ⟨1, 9⟩ (v186.tokens.map cS)], t1.d] (by simp)
     try simp [q189] at r195
     refine zAR r195 (by simp [q189]) rfl ?_
     simp [q189]
    obtain ⟨v192, q193, h⟩ := bs h
    obtain rfl := oi h
    refine st ?_
    simp
    have r194 := (zAC [[41]] v190 v192 q193).frame [0] [[.osl ⟨1, 9⟩ (v190.tokens.map cS)], t1.d] (by simp)
    try simp at r194
    refine zAR r194 (by simp) rfl ?_
    simp
   refine cutA 179 1 [(0, .mptr 0 0), (3, .mptr 1 0), (162, .bool (eqI t1.Op 34))] [[.osl ⟨1, 9⟩ (w2.tokens.map cS)], t1.d] <| spc h rfl (fun g200 h => ?_) fun g200 h => ?_
   ·obtain ⟨v202, q203, h⟩ := bs h
    obtain ⟨v204, q205, h⟩ := bs h
    refine cut 179 1 [(0, .mptr 0 0), (3, .mptr 1 0)] [[.osl ⟨1, 9⟩ (v204.tokens.map cS)], t1.d] ?_ ?_
    ·refine st ?_
     simp
     have r214 := zBk t1.Names v202 q203
     try simp at r214
     refine zAA r214 (by simp) rfl ?_
     simp
     have r215 := (zAC [[40], [112, 97, 99, 107], v202, [58]] w2 v204 q205).frame [0] [[.osl ⟨1, 9⟩ (w2.tokens.map cS)], t1.d] (by simp)
     try simp at r215
     refine zAR r215 (by simp) rfl ?_
     simp
    obtain ⟨x206, q207, h⟩ := bs h
    obtain ⟨v208, q209, h⟩ := bs h
    refine cut 179 1 [(0, .mptr 0 0)] [[.osl ⟨1, 9⟩ (v208.tokens.map cS)], t1.d] ?_ ?_
    ·refine st ?_
     simp [q207]
     have r213 := (zAL x206 2 v204 v208 q209).frame [0] [[.osl ⟨1, 9⟩ (v204.tokens.map cS)], t1.d] (by simp)
     try simp [q207] at r213
     refine zAR r213 (by simp [q207]) rfl ?_
     simp [q207]
    obtain ⟨v210, q211, h⟩ := bs h
    obtain rfl := oi h
    refine st ?_
    simp
    have r212 := (zAC [[41]] v208 v210 q211).frame [0] [[.osl ⟨1, 9⟩ (v208.tokens.map cS)], t1.d] (by simp)
    try simp at r212
    refine zAR r212 (by simp) rfl ?_
    simp
   obtain ⟨v217, q218, h⟩ := bs h
   obtain rfl := oi h
   refine st ?_
   simp
   have r219 := (zFg t1 w2 v217 q218).frame [0] [[.osl ⟨1, 9⟩ (w2.tokens.map cS)], t1.d] (by simp)
   try simp at r219
   refine zAR r219 (by simp) rfl ?_
   simp
  ·intro l1 level2 between3 w4 r h
   rw [zAl] at h
   refine zA6 Tryz.func61 (by rfl) (by rfl) (by simp) (by simp) <| cutA 32 1 [(0, .mptr 0 0), (2, .int .i64 level2), (3, .str between3), (10, .sl (l1.map zJC.c)), (11, .int .i64 l1.length), (12, .int .i64 0)] [[.osl ⟨1, 9⟩ (w4.tokens.map cS)]] <| zAU ?_
   obtain ⟨o7, l8, h⟩ := bs h
   refine zB2 (fun p : Nat × (List (List UInt8)) × Nat => mkS 32 1 [(0, .mptr 0 0), (2, .int .i64 level2), (3, .str between3), (10, .sl (l1.map zJC.c)), (11, .int .i64 l1.length), (12, .int .i64 p.2.2)] [[.osl ⟨1, 9⟩ (p.2.1.map cS)]]) (fun p => zA5 (zAK fuel) l1 level2 between3 p.1 p.2.1 p.2.2 = some o7) (fun p => p.1) (fuel, w4.tokens, 0) l8 (zBS (by simp)) ?_
   rintro ⟨k9, tokens5, i6⟩ l8
   dsimp only at l8 ⊢
   cases k9 with
   | zero =>
    rw [zA5] at l8; cases l8
   | succ k10 =>
    rw [zA5] at l8
    refine cutA 32 1 [(0, .mptr 0 0), (2, .int .i64 level2), (3, .str between3), (10, .sl (l1.map zJC.c)), (11, .int .i64 l1.length), (12, .int .i64 i6), (13, .bool (ltI ((i6 : Nat) : Int) (l1.length : Int)))] [[.osl ⟨1, 9⟩ (tokens5.map cS)]] <| zAM <| spc l8 rfl (fun g11 l8 => ?_) fun g11 l8 => ?_
    ·have c12 := ltT g11
     refine zD3 10 rfl fun f13 => ?_
     rw [List.length_map] at f13
     refine zAF <| zAP <| zAM <| zAU ?_
     obtain ⟨x14, q15, l8⟩ := bs l8
     refine cut 32 1 [(0, .mptr 0 0), (2, .int .i64 level2), (3, .str between3), (8, .int .i64 i6), (9, .mptr 1 0), (10, .sl (l1.map zJC.c)), (11, .int .i64 l1.length), (12, .int .i64 i6)] [[.osl ⟨1, 9⟩ (tokens5.map cS)], x14.d] (st (by simp [q15])) <| zAM <| cut 32 1 [(0, .mptr 0 0), (2, .int .i64 level2), (3, .str between3), (9, .mptr 1 0), (10, .sl (l1.map zJC.c)), (11, .int .i64 l1.length), (12, .int .i64 i6), (22, .bool ((ltI 0 ((i6 : Nat) : Int)) && (!(eqS between3 ([] : List UInt8)))))] [[.osl ⟨1, 9⟩ (tokens5.map cS)], x14.d] ?_ ?_
     ·rcases tf (ltI 0 ((i6 : Nat) : Int)) with g16 | g16
      ·have c17 := ltT g16
       refine st ?_
       simp [g16]
      have c18 := ltF g16
      refine st ?_
      simp [g16]
     rcases sp l8 with ⟨g19, l8⟩ | ⟨g19, l8⟩
     ·obtain ⟨g20, g21⟩ := andT g19
      have c22 := ltT g20
      have g23 := notT g21
      refine zBE rfl g19 ?_
      obtain ⟨v24, q25, l8⟩ := bs l8
      refine last 32 1 [(0, .mptr 0 0), (2, .int .i64 level2), (3, .str between3), (9, .mptr 1 0), (10, .sl (l1.map zJC.c)), (11, .int .i64 l1.length), (12, .int .i64 i6)] [[.osl ⟨1, 9⟩ (v24.tokens.map cS)], x14.d] ?_ fun zz hs => ?_
      ·refine st ?_
       simp
       have r30 := (zAC [between3] (zI9.mk tokens5) v24 q25).frame [0] [[.osl ⟨1, 9⟩ (tokens5.map cS)], x14.d] (by simp)
       try simp at r30
       refine zAR r30 (by simp) rfl ?_
       simp
      refine zBT ?_ hs
      obtain ⟨v26, q27, l8⟩ := bs l8
      refine last 32 1 [(0, .mptr 0 0), (2, .int .i64 level2), (3, .str between3), (10, .sl (l1.map zJC.c)), (11, .int .i64 l1.length), (12, .int .i64 i6)] [[.osl ⟨1, 9⟩ (v26.tokens.map cS)], x14.d] ?_ fun zz hs => ?_
      ·refine st ?_
       simp
       have r29 := (zAL x14 level2 v24 v26 q27).frame [0] [[.osl ⟨1, 9⟩ (v24.tokens.map cS)], x14.d] (by simp)
       try simp at r29
       refine zAR r29 (by simp) rfl ?_
       simp
      refine zCx <| zBT ?_ hs
      have q28 : Rng .i64 (((i6 : Nat) : Int) + 1) := by simp only [Rng, inR]; omega
      try simp at q28
      refine last 32 1 [(0, .mptr 0 0), (2, .int .i64 level2), (3, .str between3), (10, .sl (l1.map zJC.c)), (11, .int .i64 l1.length), (12, .int .i64 ((i6 + 1 : Nat) : Int))] [[.osl ⟨1, 9⟩ (v26.tokens.map cS)]] (st (by simp [q28])) fun zz hs => ?_
      exact ⟨(k10, v26.tokens, i6 + 1), hs, l8, by simp⟩
     refine zGH rfl g19 <| zAF <| zAP ?_
     obtain ⟨v31, q32, l8⟩ := bs l8
     refine last 32 1 [(0, .mptr 0 0), (2, .int .i64 level2), (3, .str between3), (10, .sl (l1.map zJC.c)), (11, .int .i64 l1.length), (12, .int .i64 i6)] [[.osl ⟨1, 9⟩ (v31.tokens.map cS)], x14.d] ?_ fun zz hs => ?_
     ·refine st ?_
      simp
      have r34 := (zAL x14 level2 (zI9.mk tokens5) v31 q32).frame [0] [[.osl ⟨1, 9⟩ (tokens5.map cS)], x14.d] (by simp)
      try simp at r34
      refine zAR r34 (by simp) rfl ?_
      simp
     refine zCx <| zBT ?_ hs
     have q33 : Rng .i64 (((i6 : Nat) : Int) + 1) := by simp only [Rng, inR]; omega
     try simp at q33
     refine last 32 1 [(0, .mptr 0 0), (2, .int .i64 level2), (3, .str between3), (10, .sl (l1.map zJC.c)), (11, .int .i64 l1.length), (12, .int .i64 ((i6 + 1 : Nat) : Int))] [[.osl ⟨1, 9⟩ (v31.tokens.map cS)]] (st (by simp [q33])) fun zz hs => ?_
     exact ⟨(k10, v31.tokens, i6 + 1), hs, l8, by simp⟩
    have c35 := ltF g11
    refine zD3 10 rfl fun f36 => ?_
    rw [List.length_map] at f36
    refine zBR <| zAc ?_
    have q37 := Option.some.inj l8
    have q37 := q37.symm
    refine zAc <| zBQ ?_
    obtain rfl := oi h
    simp [q37]
  ·intro t1 level2 w3 r h
   rw [zAK] at h
   refine zA6 Tryz.func60 (by rfl) (by rfl) (by simp) (by simp) <| cutA 22 1 [(0, .mptr 0 0), (2, .int .i64 level2), (4, .mptr 1 0)] [[.osl ⟨1, 9⟩ (w3.tokens.map cS)], t1.d] <| zAM ?_
   obtain ⟨v4, q5, h⟩ := bs h
   refine cut 22 1 [(0, .mptr 0 0), (4, .mptr 1 0), (9, .bool (leI level2 v4))] [[.osl ⟨1, 9⟩ (w3.tokens.map cS)], t1.d] ?_ ?_
   ·refine st ?_
    simp
    have r21 := zH2 t1 v4 q5
    try simp at r21
    refine zAA r21 (by simp) rfl ?_
    simp
   refine spc h rfl (fun g6 h => ?_) fun g6 h => ?_
   ·have c7 := leT g6
    obtain ⟨v8, q9, h⟩ := bs h
    refine cut 22 1 [] [[.osl ⟨1, 9⟩ (v8.tokens.map cS)], t1.d] ?_ ?_
    ·refine st ?_
     simp
     have r10 := (zE0 t1 w3 v8 q9).frame [0] [[.osl ⟨1, 9⟩ (w3.tokens.map cS)], t1.d] (by simp)
     try simp at r10
     refine zAR r10 (by simp) rfl ?_
     simp
    refine zAB <| zAE ?_
    obtain rfl := oi h
    simp
   have c11 := leF g6
   refine zAF <| zAP ?_
   obtain ⟨v12, q13, h⟩ := bs h
   refine cut 22 1 [(0, .mptr 0 0), (4, .mptr 1 0)] [[.osl ⟨1, 9⟩ (v12.tokens.map cS)], t1.d] ?_ ?_
   ·refine st ?_
    simp
    have r20 := (zAC [[40]] w3 v12 q13).frame [0] [[.osl ⟨1, 9⟩ (w3.tokens.map cS)], t1.d] (by simp)
    try simp at r20
    refine zAR r20 (by simp) rfl ?_
    simp
   obtain ⟨v14, q15, h⟩ := bs h
   refine cut 22 1 [(0, .mptr 0 0)] [[.osl ⟨1, 9⟩ (v14.tokens.map cS)], t1.d] ?_ ?_
   ·refine st ?_
    simp
    have r19 := (zE0 t1 v12 v14 q15).frame [0] [[.osl ⟨1, 9⟩ (v12.tokens.map cS)], t1.d] (by simp)
    try simp at r19
    refine zAR r19 (by simp) rfl ?_
    simp
   obtain ⟨v16, q17, h⟩ := bs h
   obtain rfl := oi h
   refine st ?_
   simp
   have r18 := (zAC [[41]] v14 v16 q17).frame [0] [[.osl ⟨1, 9⟩ (v14.tokens.map cS)], t1.d] (by simp)
   try simp at r18
   refine zAR r18 (by simp) rfl ?_
   simp
  ·intro t1 w2 r h
   rw [zAH] at h
   refine zA6 Tryz.func38 (by rfl) (by rfl) (by simp) (by simp) <| cutA 141 1 [(0, .mptr 0 0), (3, .mptr 1 0)] [[.osl ⟨1, 9⟩ (w2.tokens.map cS)], t1.d] <| cutA 141 1 [(0, .mptr 0 0), (3, .mptr 1 0), (7, .int .i64 t1.Op)] [[.osl ⟨1, 9⟩ (w2.tokens.map cS)], t1.d] <| zAU <| zAM <| cutA 141 1 [(0, .mptr 0 0), (3, .mptr 1 0), (7, .int .i64 t1.Op), (11, .bool (eqI t1.Op 1))] [[.osl ⟨1, 9⟩ (w2.tokens.map cS)], t1.d] <| spc h rfl (fun g3 h => ?_) fun g3 h => ?_
   ·refine zAF <| zAP <| zBE rfl (by simp [g3]) ?_
    obtain ⟨v5, q6, h⟩ := bs h
    obtain rfl := oi h
    refine st ?_
    simp
    have r7 := (zAC [t1.S] w2 v5 q6).frame [0] [[.osl ⟨1, 9⟩ (w2.tokens.map cS)], t1.d] (by simp)
    try simp at r7
    refine zAR r7 (by simp) rfl ?_
    simp
   refine zEf 141 1 [(0, .mptr 0 0), (3, .mptr 1 0), (7, .int .i64 t1.Op), (11, .bool (eqI t1.Op 12))] [[.osl ⟨1, 9⟩ (w2.tokens.map cS)], t1.d] <| spc h rfl (fun g9 h => ?_) fun g9 h => ?_
   ·have c10 := eqT g9
    obtain ⟨v11, q12, h⟩ := bs h
    obtain rfl := oi h
    refine st ?_
    simp
    have r13 := (zAC [t1.S] w2 v11 q12).frame [0] [[.osl ⟨1, 9⟩ (w2.tokens.map cS)], t1.d] (by simp)
    try simp at r13
    refine zAR r13 (by simp) rfl ?_
    simp
   have c14 := eqF g9
   refine cutA 141 1 [(0, .mptr 0 0), (3, .mptr 1 0), (7, .int .i64 t1.Op), (19, .bool (eqI t1.Op 2))] [[.osl ⟨1, 9⟩ (w2.tokens.map cS)], t1.d] <| spc h rfl (fun g15 h => ?_) fun g15 h => ?_
   ·refine zAM <| cutA 141 1 [(0, .mptr 0 0), (3, .mptr 1 0), (23, .int .i64 t1.L.length)] [[.osl ⟨1, 9⟩ (w2.tokens.map cS)], t1.d] <| zAU <| cutA 141 1 [(0, .mptr 0 0), (3, .mptr 1 0), (23, .int .i64 t1.L.length), (34, .bool (eqI (t1.L.length : Int) 0))] [[.osl ⟨1, 9⟩ (w2.tokens.map cS)], t1.d] <| spc h rfl (fun g17 h => ?_) fun g17 h => ?_
    ·have c18 := eqT g17
     refine zAF <| zCx <| zAP ?_
     obtain ⟨v19, q20, h⟩ := bs h
     obtain ⟨v21, q22, h⟩ := bs h
     obtain rfl := oi h
     refine st ?_
     simp
     have r23 := zBk t1.Names v19 q20
     try simp at r23
     refine zAA r23 (by simp) rfl ?_
     simp
     have r24 := (zAC [v19] w2 v21 q22).frame [0] [[.osl ⟨1, 9⟩ (w2.tokens.map cS)], t1.d] (by simp)
     try simp at r24
     refine zAR r24 (by simp) rfl ?_
     simp
    have c25 := eqF g17
    refine cutA 141 1 [(0, .mptr 0 0), (3, .mptr 1 0), (36, .bool (eqI (t1.L.length : Int) 1))] [[.osl ⟨1, 9⟩ (w2.tokens.map cS)], t1.d] <| spc h rfl (fun g26 h => ?_) fun g26 h => ?_
    ·have c27 := eqT g26
     obtain ⟨x28, q29, h⟩ := bs h
     obtain ⟨v30, q31, h⟩ := bs h
     refine last 141 1 [(0, .mptr 0 0), (3, .mptr 1 0)] [[.osl ⟨1, 9⟩ (v30.tokens.map cS)], t1.d] ?_ fun zz hs => ?_
     ·refine st ?_
      simp [q29]
      have r38 := (zAL x28 2 w2 v30 q31).frame [0] [[.osl ⟨1, 9⟩ (w2.tokens.map cS)], t1.d] (by simp)
      try simp [q29] at r38
      refine zAR r38 (by simp [q29]) rfl ?_
      simp [q29]
     refine zCx <| zBT ?_ hs
     obtain ⟨v32, q33, h⟩ := bs h
     obtain ⟨v34, q35, h⟩ := bs h
     obtain rfl := oi h
     refine st ?_
     simp
     have r36 := zBk t1.Names v32 q33
     try simp at r36
     refine zAA r36 (by simp) rfl ?_
     simp
     have r37 := (zAC [v32] v30 v34 q35).frame [0] [[.osl ⟨1, 9⟩ (v30.tokens.map cS)], t1.d] (by simp)
     try simp at r37
     refine zAR r37 (by simp) rfl ?_
     simp
    have c39 := eqF g26
    obtain ⟨v40, q41, h⟩ := bs h
    refine cut 141 1 [(0, .mptr 0 0), (3, .mptr 1 0)] [[.osl ⟨1, 9⟩ (v40.tokens.map cS)], t1.d] ?_ ?_
    ·refine st ?_
     simp
     have r54 := (zAC [[40]] w2 v40 q41).frame [0] [[.osl ⟨1, 9⟩ (w2.tokens.map cS)], t1.d] (by simp)
     try simp at r54
     refine zAR r54 (by simp) rfl ?_
     simp
    obtain ⟨v42, q43, h⟩ := bs h
    refine cut 141 1 [(0, .mptr 0 0), (3, .mptr 1 0)] [[.osl ⟨1, 9⟩ (v42.tokens.map cS)], t1.d] ?_ ?_
    ·refine st ?_
     simp
     have r53 := (zBF t1.L 0 [44] v40 v42 q43).frame [0] [[.osl ⟨1, 9⟩ (v40.tokens.map cS)], t1.d] (by simp)
     try simp at r53
     refine zAR r53 (by simp) rfl ?_
     simp
    obtain ⟨v44, q45, h⟩ := bs h
    refine last 141 1 [(0, .mptr 0 0), (3, .mptr 1 0)] [[.osl ⟨1, 9⟩ (v44.tokens.map cS)], t1.d] ?_ fun zz hs => ?_
    ·refine st ?_
     simp
     have r52 := (zAC [[41]] v42 v44 q45).frame [0] [[.osl ⟨1, 9⟩ (v42.tokens.map cS)], t1.d] (by simp)
     try simp at r52
     refine zAR r52 (by simp) rfl ?_
     simp
    refine zCx <| zBT ?_ hs
    obtain ⟨v46, q47, h⟩ := bs h
    obtain ⟨v48, q49, h⟩ := bs h
    obtain rfl := oi h
    refine st ?_
    simp
    have r50 := zBk t1.Names v46 q47
    try simp at r50
    refine zAA r50 (by simp) rfl ?_
    simp
    have r51 := (zAC [v46] v44 v48 q49).frame [0] [[.osl ⟨1, 9⟩ (v44.tokens.map cS)], t1.d] (by simp)
    try simp at r51
    refine zAR r51 (by simp) rfl ?_
    simp
   refine cutA 141 1 [(0, .mptr 0 0), (3, .mptr 1 0), (7, .int .i64 t1.Op), (50, .bool (eqI t1.Op 3))] [[.osl ⟨1, 9⟩ (w2.tokens.map cS)], t1.d] <| spc h rfl (fun g56 h => ?_) fun g56 h => ?_
   ·obtain ⟨x58, q59, h⟩ := bs h
    obtain ⟨v60, q61, h⟩ := bs h
    refine cut 141 1 [(0, .mptr 0 0), (3, .mptr 1 0)] [[.osl ⟨1, 9⟩ (v60.tokens.map cS)], t1.d] ?_ ?_
    ·refine st ?_
     simp [q59]
     have r70 := (zAL x58 1 w2 v60 q61).frame [0] [[.osl ⟨1, 9⟩ (w2.tokens.map cS)], t1.d] (by simp)
     try simp [q59] at r70
     refine zAR r70 (by simp [q59]) rfl ?_
     simp [q59]
    obtain ⟨v62, q63, h⟩ := bs h
    refine cut 141 1 [(0, .mptr 0 0), (3, .mptr 1 0)] [[.osl ⟨1, 9⟩ (v62.tokens.map cS)], t1.d] ?_ ?_
    ·refine st ?_
     simp
     have r69 := (zAC [[45, 62]] v60 v62 q63).frame [0] [[.osl ⟨1, 9⟩ (v60.tokens.map cS)], t1.d] (by simp)
     try simp at r69
     refine zAR r69 (by simp) rfl ?_
     simp
    obtain ⟨x64, q65, h⟩ := bs h
    obtain ⟨v66, q67, h⟩ := bs h
    obtain rfl := oi h
    refine st ?_
    simp [q65]
    have r68 := (zAL x64 0 v62 v66 q67).frame [0] [[.osl ⟨1, 9⟩ (v62.tokens.map cS)], t1.d] (by simp)
    try simp [q65] at r68
    refine zAR r68 (by simp [q65]) rfl ?_
    simp [q65]
   refine cutA 141 1 [(0, .mptr 0 0), (3, .mptr 1 0), (7, .int .i64 t1.Op), (67, .bool (eqI t1.Op 4))] [[.osl ⟨1, 9⟩ (w2.tokens.map cS)], t1.d] <| spc h rfl (fun g72 h => ?_) fun g72 h => ?_
   ·obtain ⟨v74, q75, h⟩ := bs h
    obtain rfl := oi h
    refine st ?_
    simp
    have r76 := (zBF t1.L 2 [42] w2 v74 q75).frame [0] [[.osl ⟨1, 9⟩ (w2.tokens.map cS)], t1.d] (by simp)
    try simp at r76
    refine zAR r76 (by simp) rfl ?_
    simp
   refine cutA 141 1 [(0, .mptr 0 0), (3, .mptr 1 0), (7, .int .i64 t1.Op), (73, .bool (eqI t1.Op 5))] [[.osl ⟨1, 9⟩ (w2.tokens.map cS)], t1.d] <| spc h rfl (fun g78 h => ?_) fun g78 h => ?_
   ·obtain ⟨v80, q81, h⟩ := bs h
    obtain ⟨v82, q83, h⟩ := bs h
    obtain rfl := oi h
    refine st ?_
    simp
    have r84 := zBk t1.Names v80 q81
    try simp at r84
    refine zAA r84 (by simp) rfl ?_
    simp
    have r85 := (zAC [[40], [109, 111, 100, 117, 108, 101], v80, [41]] w2 v82 q83).frame [0] [[.osl ⟨1, 9⟩ (w2.tokens.map cS)], t1.d] (by simp)
    try simp at r85
    refine zAR r85 (by simp) rfl ?_
    simp
   refine cutA 141 1 [(0, .mptr 0 0), (3, .mptr 1 0), (7, .int .i64 t1.Op), (81, .bool (eqI t1.Op 11))] [[.osl ⟨1, 9⟩ (w2.tokens.map cS)], t1.d] <| spc h rfl (fun g87 h => ?_) fun g87 h => ?_
   ·obtain ⟨v89, q90, h⟩ := bs h
    obtain rfl := oi h
    refine st ?_
    simp
    have r91 := (zAC [[95]] w2 v89 q90).frame [0] [[.osl ⟨1, 9⟩ (w2.tokens.map cS)], t1.d] (by simp)
    try simp at r91
    refine zAR r91 (by simp) rfl ?_
    simp
   refine zAM <| cutA 141 1 [(0, .mptr 0 0), (3, .mptr 1 0), (7, .int .i64 t1.Op), (86, .bool (eqI t1.Op 13))] [[.osl ⟨1, 9⟩ (w2.tokens.map cS)], t1.d] <| spc h rfl (fun g93 h => ?_) fun g93 h => ?_
   ·refine zAF <| zAP <| zBE rfl (by simp [g93]) ?_
    obtain ⟨v95, q96, h⟩ := bs h
    obtain rfl := oi h
    refine st ?_
    simp
    have r97 := (zEd t1.N w2 v95 q96).frame [0] [[.osl ⟨1, 9⟩ (w2.tokens.map cS)], t1.d] (by simp)
    try simp at r97
    refine zAR r97 (by simp) rfl ?_
    simp
   refine zEf 141 1 [(0, .mptr 0 0), (3, .mptr 1 0), (7, .int .i64 t1.Op), (86, .bool (eqI t1.Op 21))] [[.osl ⟨1, 9⟩ (w2.tokens.map cS)], t1.d] <| spc h rfl (fun g99 h => ?_) fun g99 h => ?_
   ·have c100 := eqT g99
    obtain ⟨v101, q102, h⟩ := bs h
    obtain rfl := oi h
    refine st ?_
    simp
    have r103 := (zEd t1.N w2 v101 q102).frame [0] [[.osl ⟨1, 9⟩ (w2.tokens.map cS)], t1.d] (by simp)
    try simp at r103
    refine zAR r103 (by simp) rfl ?_
    simp
   have c104 := eqF g99
   refine cutA 141 1 [(0, .mptr 0 0), (3, .mptr 1 0), (7, .int .i64 t1.Op), (93, .bool (eqI t1.Op 14))] [[.osl ⟨1, 9⟩ (w2.tokens.map cS)], t1.d] <| spc h rfl (fun g105 h => ?_) fun g105 h => ?_
   ·obtain ⟨v107, q108, h⟩ := bs h
    obtain ⟨v109, q110, h⟩ := bs h
    refine cut 141 1 [(0, .mptr 0 0), (3, .mptr 1 0)] [[.osl ⟨1, 9⟩ (v109.tokens.map cS)], t1.d] ?_ ?_
    ·refine st ?_
     simp
     have r114 := zBk t1.Names v107 q108
     try simp at r114
     refine zAA r114 (by simp) rfl ?_
     simp
     have r115 := (zAC [v107] w2 v109 q110).frame [0] [[.osl ⟨1, 9⟩ (w2.tokens.map cS)], t1.d] (by simp)
     try simp at r115
     refine zAR r115 (by simp) rfl ?_
     simp
    obtain ⟨v111, q112, h⟩ := bs h
    obtain rfl := oi h
    refine st ?_
    simp
    have r113 := (zBF t1.L 1 ([] : List UInt8) v109 v111 q112).frame [0] [[.osl ⟨1, 9⟩ (v109.tokens.map cS)], t1.d] (by simp)
    try simp at r113
    refine zAR r113 (by simp) rfl ?_
    simp
   refine zAM <| cutA 141 1 [(0, .mptr 0 0), (3, .mptr 1 0), (7, .int .i64 t1.Op), (105, .bool (eqI t1.Op 15))] [[.osl ⟨1, 9⟩ (w2.tokens.map cS)], t1.d] <| spc h rfl (fun g117 h => ?_) fun g117 h => ?_
   ·refine zAF <| zAP <| zBE rfl (by simp [g117]) ?_
    obtain ⟨v119, q120, h⟩ := bs h
    refine cut 141 1 [(0, .mptr 0 0), (3, .mptr 1 0)] [[.osl ⟨1, 9⟩ (v119.tokens.map cS)], t1.d] ?_ ?_
    ·refine st ?_
     simp
     have r127 := (zAC [[40]] w2 v119 q120).frame [0] [[.osl ⟨1, 9⟩ (w2.tokens.map cS)], t1.d] (by simp)
     try simp at r127
     refine zAR r127 (by simp) rfl ?_
     simp
    obtain ⟨v121, q122, h⟩ := bs h
    refine cut 141 1 [(0, .mptr 0 0)] [[.osl ⟨1, 9⟩ (v121.tokens.map cS)], t1.d] ?_ ?_
    ·refine st ?_
     simp
     have r126 := (zBF t1.L 0 [44] v119 v121 q122).frame [0] [[.osl ⟨1, 9⟩ (v119.tokens.map cS)], t1.d] (by simp)
     try simp at r126
     refine zAR r126 (by simp) rfl ?_
     simp
    obtain ⟨v123, q124, h⟩ := bs h
    obtain rfl := oi h
    refine st ?_
    simp
    have r125 := (zAC [[41]] v121 v123 q124).frame [0] [[.osl ⟨1, 9⟩ (v121.tokens.map cS)], t1.d] (by simp)
    try simp at r125
    refine zAR r125 (by simp) rfl ?_
    simp
   refine zEf 141 1 [(0, .mptr 0 0), (3, .mptr 1 0), (7, .int .i64 t1.Op), (105, .bool (eqI t1.Op 27))] [[.osl ⟨1, 9⟩ (w2.tokens.map cS)], t1.d] <| spc h rfl (fun g129 h => ?_) fun g129 h => ?_
   ·have c130 := eqT g129
    obtain ⟨v131, q132, h⟩ := bs h
    refine cut 141 1 [(0, .mptr 0 0), (3, .mptr 1 0)] [[.osl ⟨1, 9⟩ (v131.tokens.map cS)], t1.d] ?_ ?_
    ·refine st ?_
     simp
     have r139 := (zAC [[40]] w2 v131 q132).frame [0] [[.osl ⟨1, 9⟩ (w2.tokens.map cS)], t1.d] (by simp)
     try simp at r139
     refine zAR r139 (by simp) rfl ?_
     simp
    obtain ⟨v133, q134, h⟩ := bs h
    refine cut 141 1 [(0, .mptr 0 0)] [[.osl ⟨1, 9⟩ (v133.tokens.map cS)], t1.d] ?_ ?_
    ·refine st ?_
     simp
     have r138 := (zBF t1.L 0 [44] v131 v133 q134).frame [0] [[.osl ⟨1, 9⟩ (v131.tokens.map cS)], t1.d] (by simp)
     try simp at r138
     refine zAR r138 (by simp) rfl ?_
     simp
    obtain ⟨v135, q136, h⟩ := bs h
    obtain rfl := oi h
    refine st ?_
    simp
    have r137 := (zAC [[41]] v133 v135 q136).frame [0] [[.osl ⟨1, 9⟩ (v133.tokens.map cS)], t1.d] (by simp)
    try simp at r137
    refine zAR r137 (by simp) rfl ?_
    simp
   have c140 := eqF g129
   refine cutA 141 1 [(0, .mptr 0 0), (3, .mptr 1 0), (7, .int .i64 t1.Op), (118, .bool (eqI t1.Op 22))] [[.osl ⟨1, 9⟩ (w2.tokens.map cS)], t1.d] <| spc h rfl (fun g141 h => ?_) fun g141 h => ?_
   ·obtain ⟨v143, q144, h⟩ := bs h
    refine cut 141 1 [(0, .mptr 0 0), (4, .str v143.1)] [[.osl ⟨1, 9⟩ (w2.tokens.map cS)], t1.d] ?_ ?_
    ·refine st ?_
     simp
     have r148 := zIu fuel t1.S v143 q144
     try simp at r148
     refine zAA r148 (by simp) rfl ?_
     simp
    obtain ⟨v145, q146, h⟩ := bs h
    obtain rfl := oi h
    refine st ?_
    simp
    have r147 := (zAC [v143.1] w2 v145 q146).frame [0] [[.osl ⟨1, 9⟩ (w2.tokens.map cS)], t1.d] (by simp)
    try simp at r147
    refine zAR r147 (by simp) rfl ?_
    simp
   refine zAM <| cutA 141 1 [(0, .mptr 0 0), (3, .mptr 1 0), (7, .int .i64 t1.Op), (130, .bool (eqI t1.Op 23))] [[.osl ⟨1, 9⟩ (w2.tokens.map cS)], t1.d] <| spc h rfl (fun g150 h => ?_) fun g150 h => ?_
   ·refine zAF <| zAP <| zBE rfl (by simp [g150]) ?_
    obtain ⟨v152, q153, h⟩ := bs h
    obtain ⟨v154, q155, h⟩ := bs h
    obtain rfl := oi h
    refine st ?_
    simp
    have r156 := zBk t1.Names v152 q153
    try simp at r156
    refine zAA r156 (by simp) rfl ?_
    simp
    have r157 := (zAC [v152] w2 v154 q155).frame [0] [[.osl ⟨1, 9⟩ (w2.tokens.map cS)], t1.d] (by simp)
    try simp at r157
    refine zAR r157 (by simp) rfl ?_
    simp
   refine cutA 141 1 [(0, .mptr 0 0), (3, .mptr 1 0), (7, .int .i64 t1.Op), (130, .bool (eqI t1.Op 24))] [[.osl ⟨1, 9⟩ (w2.tokens.map cS)], t1.d] <| spc h rfl (fun g159 h => ?_) fun g159 h => ?_
   ·refine zAF <| zAP <| zBE rfl (by simp [g159]) ?_
    obtain ⟨v161, q162, h⟩ := bs h
    obtain ⟨v163, q164, h⟩ := bs h
    obtain rfl := oi h
    refine st ?_
    simp
    have r165 := zBk t1.Names v161 q162
    try simp at r165
    refine zAA r165 (by simp) rfl ?_
    simp
    have r166 := (zAC [v161] w2 v163 q164).frame [0] [[.osl ⟨1, 9⟩ (w2.tokens.map cS)], t1.d] (by simp)
    try simp at r166
    refine zAR r166 (by simp) rfl ?_
    simp
   refine cutA 141 1 [(0, .mptr 0 0), (3, .mptr 1 0), (7, .int .i64 t1.Op), (130, .bool (eqI t1.Op 72))] [[.osl ⟨1, 9⟩ (w2.tokens.map cS)], t1.d] <| spc h rfl (fun g168 h => ?_) fun g168 h => ?_
   ·refine zAF <| zAP <| zBE rfl (by simp [g168]) ?_
    obtain ⟨v170, q171, h⟩ := bs h
    obtain ⟨v172, q173, h⟩ := bs h
    obtain rfl := oi h
    refine st ?_
    simp
    have r174 := zBk t1.Names v170 q171
    try simp at r174
    refine zAA r174 (by simp) rfl ?_
    simp
    have r175 := (zAC [v170] w2 v172 q173).frame [0] [[.osl ⟨1, 9⟩ (w2.tokens.map cS)], t1.d] (by simp)
    try simp at r175
    refine zAR r175 (by simp) rfl ?_
    simp
   refine zEf 141 1 [(0, .mptr 0 0), (3, .mptr 1 0), (130, .bool (eqI t1.Op 82))] [[.osl ⟨1, 9⟩ (w2.tokens.map cS)], t1.d] <| spc h rfl (fun g177 h => ?_) fun g177 h => ?_
   ·have c178 := eqT g177
    obtain ⟨v179, q180, h⟩ := bs h
    obtain ⟨v181, q182, h⟩ := bs h
    obtain rfl := oi h
    refine st ?_
    simp
    have r183 := zBk t1.Names v179 q180
    try simp at r183
    refine zAA r183 (by simp) rfl ?_
    simp
    have r184 := (zAC [v179] w2 v181 q182).frame [0] [[.osl ⟨1, 9⟩ (w2.tokens.map cS)], t1.d] (by simp)
    try simp at r184
    refine zAR r184 (by simp) rfl ?_
    simp
   have c185 := eqF g177
   obtain ⟨v186, q187, h⟩ := bs h
   obtain rfl := oi h
   refine st ?_
   simp
   have r188 := (zFD t1 w2 v186 q187).frame [0] [[.osl ⟨1, 9⟩ (w2.tokens.map cS)], t1.d] (by simp)
   try simp at r188
   refine zAR r188 (by simp) rfl ?_
   simp
theorem zFz (fuel : Nat) : (∀ (t1 : zJC) (w2 : zI9) (r : zI9) (_ : zAH fuel t1 w2 = some r), Raw Tryz.prog 38 [.mptr 0 0, .agg t1.d] [[.osl ⟨1, 9⟩ (w2.tokens.map cS)]] (.tup []) [[.osl ⟨1, 9⟩ (r.tokens.map cS)]]) := (zDK fuel).2.2.2.2.2.2.2.2
theorem zF0 (fuel : Nat) (w1 : zI9) (r : (List UInt8)) (h : zC0 fuel w1 = some r) : Raw Tryz.prog 39 [.mptr 0 0] [[.osl ⟨1, 9⟩ (w1.tokens.map cS)]] (.str r) [[.osl ⟨1, 9⟩ (w1.tokens.map cS)]] := by
 rw [zC0] at h
 refine zA6 Tryz.func39 (by rfl) (by rfl) (by simp) (by simp) <| cutA 46 1 [(0, .mptr 0 0)] [[.osl ⟨1, 9⟩ (w1.tokens.map cS)]] <| cutA 46 1 [(0, .mptr 0 0), (3, .mptr 1 0)] [[.osl ⟨1, 9⟩ (w1.tokens.map cS)], [.baddr 66 1, .osl ⟨1, 5⟩ (([] : List UInt8).map cU)]] <| zAM <| cutA 46 1 [(0, .mptr 0 0), (3, .mptr 1 0), (9, .sl (w1.tokens.map cS)), (10, .int .i64 w1.tokens.length), (11, .int .i64 0)] [[.osl ⟨1, 9⟩ (w1.tokens.map cS)], [.baddr 66 1, .osl ⟨1, 5⟩ (([] : List UInt8).map cU)]] <| zAU ?_
 obtain ⟨o4, l5, h⟩ := bs h
 refine zB2 (fun p : Nat × (List UInt8) × Nat => mkS 46 1 [(0, .mptr 0 0), (3, .mptr 1 0), (9, .sl (w1.tokens.map cS)), (10, .int .i64 w1.tokens.length), (11, .int .i64 p.2.2)] [[.osl ⟨1, 9⟩ (w1.tokens.map cS)], [.baddr 66 1, .osl ⟨1, 5⟩ (p.2.1.map cU)]]) (fun p => zBM w1 p.1 p.2.1 p.2.2 = some o4) (fun p => p.1) (fuel, ([] : List UInt8), 0) l5 (zBS (by simp)) ?_
 rintro ⟨k6, buf2, i3⟩ l5
 dsimp only at l5 ⊢
 cases k6 with
 | zero =>
  rw [zBM] at l5; cases l5
 | succ k7 =>
  rw [zBM] at l5
  refine cutA 46 1 [(0, .mptr 0 0), (3, .mptr 1 0), (9, .sl (w1.tokens.map cS)), (10, .int .i64 w1.tokens.length), (11, .int .i64 i3), (12, .bool (ltI ((i3 : Nat) : Int) (w1.tokens.length : Int)))] [[.osl ⟨1, 9⟩ (w1.tokens.map cS)], [.baddr 66 1, .osl ⟨1, 5⟩ (buf2.map cU)]] <| zAM <| spc l5 rfl (fun g8 l5 => ?_) fun g8 l5 => ?_
  ·have c9 := ltT g8
   refine zD3 9 rfl fun f10 => ?_
   rw [List.length_map] at f10
   refine zAF <| zAP <| zAM <| zAU ?_
   obtain ⟨x11, q12, l5⟩ := bs l5
   refine cut 46 1 [(0, .mptr 0 0), (3, .mptr 1 0), (4, .int .i64 i3), (5, .str x11), (9, .sl (w1.tokens.map cS)), (10, .int .i64 w1.tokens.length), (11, .int .i64 i3)] [[.osl ⟨1, 9⟩ (w1.tokens.map cS)], [.baddr 66 1, .osl ⟨1, 5⟩ (buf2.map cU)]] (st (by simp [q12])) <| zAM ?_
   obtain ⟨b30, q31, l5⟩ := bs l5
   refine cut 46 1 [(0, .mptr 0 0), (3, .mptr 1 0), (5, .str x11), (9, .sl (w1.tokens.map cS)), (10, .int .i64 w1.tokens.length), (11, .int .i64 i3), (40, .bool b30)] [[.osl ⟨1, 9⟩ (w1.tokens.map cS)], [.baddr 66 1, .osl ⟨1, 5⟩ (buf2.map cU)]] ?_ ?_
   ·rcases sp q31 with ⟨g13, q31⟩ | ⟨g13, q31⟩
    ·have c14 := ltT g13
     have q15 : Rng .i64 (((i3 : Nat) : Int) - 1) := by simp only [Rng, inR]; omega
     try simp at q15
     obtain ⟨x16, q17, q31⟩ := bs q31
     obtain ⟨q18, q19⟩ := idx_ok q17
     try simp at q18
     try simp at q19
     rcases sp q31 with ⟨g20, q31⟩ | ⟨g20, q31⟩
     ·have g21 := notT g20
      rcases sp q31 with ⟨g22, q31⟩ | ⟨g22, q31⟩
      ·have g23 := notT g22
       rcases sp q31 with ⟨g24, q31⟩ | ⟨g24, q31⟩
       ·have g25 := notT g24
        obtain rfl := oi q31
        refine st ?_
        simp [g13, q15, q18, q19, g20, g22, g24]
       have g26 := notF g24
       obtain rfl := oi q31
       refine st ?_
       simp [g13, q15, q18, q19, g20, g22, g24]
      have g27 := notF g22
      obtain rfl := oi q31
      refine st ?_
      simp [g13, q15, q18, q19, g20, g22]
     have g28 := notF g20
     obtain rfl := oi q31
     refine st ?_
     simp [g13, q15, q18, q19, g20]
    have c29 := ltF g13
    obtain rfl := oi q31
    refine st ?_
    simp [g13]
   refine spc l5 rfl (fun g32 l5 => ?_) fun g32 l5 => ?_
   ·obtain ⟨v33, q34, l5⟩ := bs l5
    refine last 46 1 [(0, .mptr 0 0), (3, .mptr 1 0), (5, .str x11), (9, .sl (w1.tokens.map cS)), (10, .int .i64 w1.tokens.length), (11, .int .i64 i3)] [[.osl ⟨1, 9⟩ (w1.tokens.map cS)], [.baddr 66 1, .osl ⟨1, 5⟩ (v33.map cU)]] ?_ fun zz hs => ?_
    ·refine st ?_
     simp
     have r39 := (zBg (32 : UInt8) buf2 v33 q34).frame [1] [[.osl ⟨1, 9⟩ (w1.tokens.map cS)], [.baddr 66 1, .osl ⟨1, 5⟩ (buf2.map cU)]] (by simp)
     try simp at r39
     refine zAR r39 (by simp) rfl ?_
     simp
    refine zBT ?_ hs
    obtain ⟨v35, q36, l5⟩ := bs l5
    refine last 46 1 [(0, .mptr 0 0), (3, .mptr 1 0), (9, .sl (w1.tokens.map cS)), (10, .int .i64 w1.tokens.length), (11, .int .i64 i3)] [[.osl ⟨1, 9⟩ (w1.tokens.map cS)], [.baddr 66 1, .osl ⟨1, 5⟩ (v35.2.map cU)]] ?_ fun zz hs => ?_
    ·refine st ?_
     simp
     have r38 := (zCN x11 v33 v35 q36).frame [1] [[.osl ⟨1, 9⟩ (w1.tokens.map cS)], [.baddr 66 1, .osl ⟨1, 5⟩ (v33.map cU)]] (by simp)
     try simp at r38
     refine zAR r38 (by simp) rfl ?_
     simp
    refine zCx <| zBT ?_ hs
    have q37 : Rng .i64 (((i3 : Nat) : Int) + 1) := by simp only [Rng, inR]; omega
    try simp at q37
    refine last 46 1 [(0, .mptr 0 0), (3, .mptr 1 0), (9, .sl (w1.tokens.map cS)), (10, .int .i64 w1.tokens.length), (11, .int .i64 ((i3 + 1 : Nat) : Int))] [[.osl ⟨1, 9⟩ (w1.tokens.map cS)], [.baddr 66 1, .osl ⟨1, 5⟩ (v35.2.map cU)]] (st (by simp [q37])) fun zz hs => ?_
    exact ⟨(k7, v35.2, i3 + 1), hs, l5, by simp⟩
   refine zAF <| zAP ?_
   obtain ⟨v40, q41, l5⟩ := bs l5
   refine last 46 1 [(0, .mptr 0 0), (3, .mptr 1 0), (9, .sl (w1.tokens.map cS)), (10, .int .i64 w1.tokens.length), (11, .int .i64 i3)] [[.osl ⟨1, 9⟩ (w1.tokens.map cS)], [.baddr 66 1, .osl ⟨1, 5⟩ (v40.2.map cU)]] ?_ fun zz hs => ?_
   ·refine st ?_
    simp
    have r43 := (zCN x11 buf2 v40 q41).frame [1] [[.osl ⟨1, 9⟩ (w1.tokens.map cS)], [.baddr 66 1, .osl ⟨1, 5⟩ (buf2.map cU)]] (by simp)
    try simp at r43
    refine zAR r43 (by simp) rfl ?_
    simp
   refine zCx <| zBT ?_ hs
   have q42 : Rng .i64 (((i3 : Nat) : Int) + 1) := by simp only [Rng, inR]; omega
   try simp at q42
   refine last 46 1 [(0, .mptr 0 0), (3, .mptr 1 0), (9, .sl (w1.tokens.map cS)), (10, .int .i64 w1.tokens.length), (11, .int .i64 ((i3 + 1 : Nat) : Int))] [[.osl ⟨1, 9⟩ (w1.tokens.map cS)], [.baddr 66 1, .osl ⟨1, 5⟩ (v40.2.map cU)]] (st (by simp [q42])) fun zz hs => ?_
   exact ⟨(k7, v40.2, i3 + 1), hs, l5, by simp⟩
  have c44 := ltF g8
  refine zD3 9 rfl fun f45 => ?_
  rw [List.length_map] at f45
  refine zBR <| zAc ?_
  have q46 := Option.some.inj l5
  have q46 := q46.symm
  refine zAc <| zBQ <| zBT (t := mkS 46 1 [(3, .mptr 1 0)] [[.osl ⟨1, 9⟩ (w1.tokens.map cS)], [.baddr 66 1, .osl ⟨1, 5⟩ (o4.map cU)]]) ?_ (zBS (by simp [q46]))
  obtain ⟨v47, q48, h⟩ := bs h
  refine cut 46 1 [(2, .str v47)] [[.osl ⟨1, 9⟩ (w1.tokens.map cS)], [.baddr 66 1, .osl ⟨1, 5⟩ (o4.map cU)]] ?_ ?_
  ·refine st ?_
   simp
   have r49 := (zDV o4 v47 q48).frame [1] [[.osl ⟨1, 9⟩ (w1.tokens.map cS)], [.baddr 66 1, .osl ⟨1, 5⟩ (o4.map cU)]] (by simp)
   try simp at r49
   refine zAR r49 (by simp) rfl ?_
   simp
  refine zAB ?_
  obtain rfl := oi h
  simp
theorem zF2 (fuel : Nat) (t1 : zJC) (r : (List UInt8)) (h : zDh fuel t1 = some r) : Pure Tryz.prog 23 [.agg t1.d] (.str r) := by
 rw [zDh] at h
 refine zAO Tryz.func23 (by rfl) (by rfl) (by simp) (by simp) (by simp) <| cutA 11 0 [(1, .mptr 0 0)] [t1.d] <| cutA 11 0 [(1, .mptr 0 0), (3, .mptr 1 0)] [t1.d, [.osl ⟨1, 9⟩ (([] : List (List UInt8)).map cS)]] ?_
 obtain ⟨v2, q3, h⟩ := bs h
 refine cut 11 0 [(3, .mptr 1 0)] [t1.d, [.osl ⟨1, 9⟩ (v2.tokens.map cS)]] ?_ ?_
 ·refine st ?_
  simp
  have r7 := (zFz fuel t1 (zI9.mk ([] : List (List UInt8))) v2 q3).frame [1] [t1.d, [.osl ⟨1, 9⟩ (([] : List (List UInt8)).map cS)]] (by simp)
  try simp at r7
  refine zAR r7 (by simp) rfl ?_
  simp
 obtain ⟨v4, q5, h⟩ := bs h
 refine cut 11 0 [(2, .str v4)] [t1.d, [.osl ⟨1, 9⟩ (v2.tokens.map cS)]] ?_ ?_
 ·refine st ?_
  simp
  have r6 := (zF0 fuel v2 v4 q5).frame [1] [t1.d, [.osl ⟨1, 9⟩ (v2.tokens.map cS)]] (by simp)
  try simp at r6
  refine zAR r6 (by simp) rfl ?_
  simp
 refine zAB ?_
 obtain rfl := oi h
 simp
theorem zDv (s1 : (List UInt8)) (r : (List UInt8) × Int) (h : zCd s1 = some r) : Pure Tryz.prog 22 [.str s1] (.tup [.str r.1, .int .i64 r.2]) := by
 rw [zCd] at h
 refine zAO Tryz.func22 (by rfl) (by rfl) (by simp) (by simp) (by simp) <| cutA 8 0 [(0, .str s1)] [] <| zAM <| cutA 8 0 [(0, .str s1), (6, .bool (ltI 16384 (s1.length : Int)))] [] <| spc h rfl (fun g2 h => ?_) fun g2 h => ?_
 ·have c3 := ltT g2
  refine zGX 0 rfl fun f4 => ?_
  refine cutA 8 0 [(2, .str ([] : List UInt8)), (3, .int .i64 5)] [] <| zAB <| zAE ?_
  obtain rfl := oi h
  simp
 have c5 := ltF g2
 refine zGX 0 rfl fun f6 => ?_
 refine zAF <| zAP <| cutA 8 0 [(2, .str s1), (3, .int .i64 0)] [] <| zAB ?_
 obtain rfl := oi h
 simp
theorem zF3 (fuel : Nat) (cat1 : Int) (t2 : zJC) (r : (List UInt8) × Int) (h : zDE fuel cat1 t2 = some r) : Pure Tryz.prog 7 [.int .i64 cat1, .agg t2.d] (.tup [.str r.1, .int .i64 r.2]) := by
 rw [zDE] at h
 refine zAO Tryz.func7 (by rfl) (by rfl) (by simp) (by simp) (by simp) <| cutA 15 0 [(0, .int .i64 cat1), (3, .mptr 0 0)] [t2.d] <| zAM ?_
 obtain ⟨v3, q4, h⟩ := bs h
 refine cut 15 0 [(3, .mptr 0 0), (9, .bool (!v3))] [t2.d] ?_ ?_
 ·refine st ?_
  simp
  have r14 := zGK fuel cat1 t2 v3 q4
  try simp at r14
  refine zAA r14 (by simp) rfl ?_
  simp
 refine spc h rfl (fun g5 h => ?_) fun g5 h => ?_
 ·have g6 := notT g5
  refine cutA 15 0 [(4, .str ([] : List UInt8)), (5, .int .i64 1)] [t2.d] <| zAB <| zAE ?_
  obtain rfl := oi h
  simp
 have g7 := notF g5
 refine zAF <| zAP ?_
 obtain ⟨v8, q9, h⟩ := bs h
 obtain ⟨v10, q11, h⟩ := bs h
 refine cut 15 0 [(4, .str v10.1), (5, .int .i64 v10.2)] [t2.d] ?_ ?_
 ·refine st ?_
  simp
  have r12 := zF2 fuel t2 v8 q9
  try simp at r12
  refine zAA r12 (by simp) rfl ?_
  simp
  have r13 := zDv v8 v10 q11
  try simp at r13
  refine zAA r13 (by simp) rfl ?_
  simp
 refine zAB ?_
 obtain rfl := oi h
 simp
theorem zIx (fuel : Nat) (r : Bool) (h : zE4 fuel = some r) : Pure Tryz.prog 5 [] (.bool r) := by
 rw [zE4] at h
 refine zAO Tryz.func5 (by rfl) (by rfl) (by simp) (by simp) (by simp) <| cutA 48 0 [] [] ?_
 obtain ⟨v1, q2, h⟩ := bs h
 obtain ⟨v3, q4, h⟩ := bs h
 obtain ⟨v5, q6, h⟩ := bs h
 obtain ⟨v7, q8, h⟩ := bs h
 obtain ⟨v9, q10, h⟩ := bs h
 obtain ⟨v11, q12, h⟩ := bs h
 obtain ⟨v13, q14, h⟩ := bs h
 refine cut 48 0 [(1, .str v13.1), (2, .int .i64 v13.2)] [] ?_ ?_
 ·refine st ?_
  simp
  have r28 := zFR 1 v1 q2
  try simp at r28
  refine zAA r28 (by simp) rfl ?_
  simp
  have r29 := zFR 2 v3 q4
  try simp at r29
  refine zAA r29 (by simp) rfl ?_
  simp
  have r30 := zHF 7 [v1, v3] v5 q6
  try simp at r30
  refine zAA r30 (by simp) rfl ?_
  simp
  have r31 := law06_name_ok [120] v7 q8
  try simp at r31
  refine zAA r31 (by simp) rfl ?_
  simp
  have r32 := zHF 12 [v7] v9 q10
  try simp at r32
  refine zAA r32 (by simp) rfl ?_
  simp
  have r33 := zHF 9 [v5, v9] v11 q12
  try simp at r33
  refine zAA r33 (by simp) rfl ?_
  simp
  have r34 := zF3 fuel 3 v11 v13 q14
  try simp at r34
  refine zAA r34 (by simp) rfl ?_
  simp
 refine cutA 48 0 [(1, .str v13.1), (2, .int .i64 v13.2), (3, .mptr 0 0)] [[.int .i64 81, .int .i64 0, .str ([] : List UInt8), .osl ⟨1, 9⟩ (([] : List (List UInt8)).map cS), .osl ⟨5, 25⟩ (([] : List zJC).map zJC.c)]] ?_
 obtain ⟨v15, q16, h⟩ := bs h
 refine cut 48 0 [(1, .str v13.1), (2, .int .i64 v13.2), (4, .mptr 1 0)] [[.int .i64 81, .int .i64 0, .str ([] : List UInt8), .osl ⟨1, 9⟩ (([] : List (List UInt8)).map cS), .osl ⟨5, 25⟩ (([] : List zJC).map zJC.c)], [.int .i64 81, .int .i64 0, .str ([] : List UInt8), .osl ⟨1, 9⟩ (([] : List (List UInt8)).map cS), .sl ([(zJC.mk 41 0 [120] ([] : List (List UInt8)) [v15]), (zJC.mk 46 0 [77] ([] : List (List UInt8)) [(zJC.mk 81 0 ([] : List UInt8) ([] : List (List UInt8)) ([] : List zJC))])].map zJC.c)]] ?_ ?_
 ·refine zAW [] mixed (n := 48) rfl (by decide) ?_
  simp
  have r27 := zFR 1 v15 q16
  try simp at r27
  refine zDT r27 (by simp) rfl ?_
  simp
 obtain ⟨v17, q18, h⟩ := bs h
 refine cut 48 0 [(1, .str v13.1), (2, .int .i64 v13.2), (5, .str v17.1), (6, .int .i64 v17.2)] [[.int .i64 81, .int .i64 0, .str ([] : List UInt8), .osl ⟨1, 9⟩ (([] : List (List UInt8)).map cS), .osl ⟨5, 25⟩ (([] : List zJC).map zJC.c)], [.int .i64 81, .int .i64 0, .str ([] : List UInt8), .osl ⟨1, 9⟩ (([] : List (List UInt8)).map cS), .sl ([(zJC.mk 41 0 [120] ([] : List (List UInt8)) [v15]), (zJC.mk 46 0 [77] ([] : List (List UInt8)) [(zJC.mk 81 0 ([] : List UInt8) ([] : List (List UInt8)) ([] : List zJC))])].map zJC.c)]] ?_ ?_
 ·refine st ?_
  simp
  have r26 := zF3 fuel 7 (zJC.mk 81 0 ([] : List UInt8) ([] : List (List UInt8)) [(zJC.mk 41 0 [120] ([] : List (List UInt8)) [v15]), (zJC.mk 46 0 [77] ([] : List (List UInt8)) [(zJC.mk 81 0 ([] : List UInt8) ([] : List (List UInt8)) ([] : List zJC))])]) v17 q18
  try simp at r26
  refine zAA r26 (by simp) rfl ?_
  simp
 refine cut 48 0 [(0, .bool ((eqI v13.2 0) && ((eqS v13.1 [40, 49, 32, 43, 32, 50, 41, 32, 42, 32, 126, 32, 120]) && ((eqI v17.2 0) && (eqS v17.1 [115, 116, 114, 117, 99, 116, 32, 118, 97, 108, 32, 120, 32, 61, 32, 49, 32, 115, 116, 114, 117, 99, 116, 117, 114, 101, 32, 77, 32, 61, 32, 115, 116, 114, 117, 99, 116, 32, 101, 110, 100, 32, 101, 110, 100])))))] [[.int .i64 81, .int .i64 0, .str ([] : List UInt8), .osl ⟨1, 9⟩ (([] : List (List UInt8)).map cS), .osl ⟨5, 25⟩ (([] : List zJC).map zJC.c)], [.int .i64 81, .int .i64 0, .str ([] : List UInt8), .osl ⟨1, 9⟩ (([] : List (List UInt8)).map cS), .sl ([(zJC.mk 41 0 [120] ([] : List (List UInt8)) [v15]), (zJC.mk 46 0 [77] ([] : List (List UInt8)) [(zJC.mk 81 0 ([] : List UInt8) ([] : List (List UInt8)) ([] : List zJC))])].map zJC.c)]] ?_ ?_
 ·rcases tf (eqI v13.2 0) with g19 | g19
  ·have c20 := eqT g19
   rcases tf (eqS v13.1 [40, 49, 32, 43, 32, 50, 41, 32, 42, 32, 126, 32, 120]) with g21 | g21
   ·rcases tf (eqI v17.2 0) with g22 | g22
    ·have c23 := eqT g22
     refine st ?_
     simp [g19, g21, g22]
    have c24 := eqF g22
    refine st ?_
    simp [g19, g21, g22]
   refine st ?_
   simp [g19, g21]
  have c25 := eqF g19
  refine st ?_
  simp [g19]
 refine zAB ?_
 obtain rfl := oi h
 simp
theorem zGu (fuel : Nat) : (∀ (t1 : zJC) (depth2 : Int) (limit3 : Int) (r : Int) (_ : zDF fuel t1 depth2 limit3 = some r), Pure Tryz.prog 20 [.agg t1.d, .int .i64 depth2, .int .i64 limit3] (.int .i64 r)) := by
 induction fuel with
 | zero => intro t1 depth2 limit3 r h; rw [zDF] at h; cases h
 | succ fuel zI0 =>
  intro t1 depth2 limit3 r h
  rw [zDF] at h
  refine zAO Tryz.func20 (by rfl) (by rfl) (by simp) (by simp) (by simp) <| cutA 35 0 [(1, .int .i64 depth2), (2, .int .i64 limit3), (3, .mptr 0 0)] [t1.d] <| cutA 35 0 [(1, .int .i64 depth2), (2, .int .i64 limit3), (3, .mptr 0 0), (7, .int .i64 1)] [t1.d] <| zAM <| cutA 35 0 [(1, .int .i64 depth2), (2, .int .i64 limit3), (7, .int .i64 1), (11, .sl (t1.L.map zJC.c)), (12, .int .i64 t1.L.length), (13, .int .i64 0)] [t1.d] <| zAU ?_
  obtain ⟨o7, l8, h⟩ := bs h
  refine zB2 (fun p : Nat × Int × Nat => mkS 35 0 [(1, .int .i64 depth2), (2, .int .i64 limit3), (7, .int .i64 p.2.1), (11, .sl (t1.L.map zJC.c)), (12, .int .i64 t1.L.length), (13, .int .i64 p.2.2)] [t1.d]) (fun p => zCW (zDF fuel) t1 depth2 limit3 p.1 p.2.1 p.2.2 = some o7) (fun p => p.1) (fuel, 1, 0) l8 (zBS (by simp)) ?_
  rintro ⟨k9, n4, i5⟩ l8
  dsimp only at l8 ⊢
  cases k9 with
  | zero =>
   rw [zCW] at l8; cases l8
  | succ k10 =>
   rw [zCW] at l8
   refine cutA 35 0 [(1, .int .i64 depth2), (2, .int .i64 limit3), (7, .int .i64 n4), (11, .sl (t1.L.map zJC.c)), (12, .int .i64 t1.L.length), (13, .int .i64 i5), (14, .bool (ltI ((i5 : Nat) : Int) (t1.L.length : Int)))] [t1.d] <| zAM <| spc l8 rfl (fun g11 l8 => ?_) fun g11 l8 => ?_
   ·have c12 := ltT g11
    refine zD3 11 rfl fun f13 => ?_
    rw [List.length_map] at f13
    refine zAF <| zAP <| zAM <| zAU ?_
    obtain ⟨x14, q15, l8⟩ := bs l8
    refine cut 35 0 [(1, .int .i64 depth2), (2, .int .i64 limit3), (7, .int .i64 n4), (9, .mptr 1 0), (11, .sl (t1.L.map zJC.c)), (12, .int .i64 t1.L.length), (13, .int .i64 i5)] [t1.d, x14.d] (st (by simp [q15])) <| zAM <| cut 35 0 [(1, .int .i64 depth2), (2, .int .i64 limit3), (7, .int .i64 n4), (9, .mptr 1 0), (11, .sl (t1.L.map zJC.c)), (12, .int .i64 t1.L.length), (13, .int .i64 i5), (23, .bool ((ltI limit3 n4) || (eqI depth2 0)))] [t1.d, x14.d] ?_ ?_
    ·rcases tf (ltI limit3 n4) with g16 | g16
     ·have c17 := ltT g16
      refine st ?_
      simp [g16]
     have c18 := ltF g16
     refine st ?_
     simp [g16]
    rcases sp l8 with ⟨g19, l8⟩ | ⟨g19, l8⟩
    ·refine zBE rfl g19 ?_
     obtain ⟨n20, q21, l8⟩ := bs l8
     obtain ⟨q22, q23⟩ := zFi q21
     try simp at q22
     try simp at q23
     have c24 := q22; simp only [Rng, inR] at c24
     refine cut 35 0 [(6, .int .i64 n20)] [t1.d, x14.d] (st (by simp [q22, q23])) <| zAB <| zAE <| zAJ <| zAE ?_
     replace h := retL l8 h
     refine zAE <| zAJ <| zAE ?_
     obtain rfl := oi h
     simp
    obtain ⟨g25, g26⟩ := orF g19
    have c27 := ltF g25
    have c28 := eqF g26
    refine zGH rfl g19 <| zAF <| zAP ?_
    obtain ⟨n29, q30, l8⟩ := bs l8
    obtain ⟨q31, q32⟩ := zFi q30
    try simp at q31
    try simp at q32
    have c33 := q31; simp only [Rng, inR] at c33
    obtain ⟨v34, q35, l8⟩ := bs l8
    obtain ⟨n36, q37, l8⟩ := bs l8
    obtain ⟨q38, q39⟩ := zFi q37
    try simp at q38
    try simp at q39
    have c40 := q38; simp only [Rng, inR] at c40
    refine last 35 0 [(1, .int .i64 depth2), (2, .int .i64 limit3), (7, .int .i64 n36), (11, .sl (t1.L.map zJC.c)), (12, .int .i64 t1.L.length), (13, .int .i64 i5)] [t1.d, x14.d] ?_ fun zz hs => ?_
    ·refine st ?_
     simp [q31, q32, q38, q39]
     have r42 := zI0 x14 n29 limit3 v34 q35
     try simp [q31, q32, q38, q39] at r42
     refine zAA r42 (by simp) rfl ?_
     simp [q31, q32, q38, q39]
    refine zCx <| zBT ?_ hs
    have q41 : Rng .i64 (((i5 : Nat) : Int) + 1) := by simp only [Rng, inR]; omega
    try simp at q41
    refine last 35 0 [(1, .int .i64 depth2), (2, .int .i64 limit3), (7, .int .i64 n36), (11, .sl (t1.L.map zJC.c)), (12, .int .i64 t1.L.length), (13, .int .i64 ((i5 + 1 : Nat) : Int))] [t1.d] (st (by simp [q41])) fun zz hs => ?_
    exact ⟨(k10, n36, i5 + 1), hs, l8, by simp⟩
   have c43 := ltF g11
   refine zD3 11 rfl fun f44 => ?_
   rw [List.length_map] at f44
   refine zBR <| zAc ?_
   rcases o7 with o7 | o6
   ·cases l8
   have q45 := Sum.inr.inj (Option.some.inj l8)
   replace h := zFp h
   have q45 := q45.symm
   refine zAc <| zBQ <| zBT (t := mkS 35 0 [(7, .int .i64 o6)] [t1.d]) ?_ (zBS (by simp [q45]))
   refine cutA 35 0 [(6, .int .i64 o6)] [t1.d] <| zAB ?_
   obtain rfl := oi h
   simp
theorem zH7 (fuel : Nat) (t1 : zJC) (r : Bool) (h : zEG fuel t1 = some r) : Pure Tryz.prog 19 [.agg t1.d] (.bool r) := by
 rw [zEG] at h
 refine zAO Tryz.func19 (by rfl) (by rfl) (by simp) (by simp) (by simp) <| cutA 12 0 [(1, .mptr 0 0)] [t1.d] ?_
 obtain ⟨b7, q8, h⟩ := bs h
 refine cut 12 0 [(2, .bool b7)] [t1.d] ?_ ?_
 ·obtain ⟨v2, q3, q8⟩ := bs q8
  rcases sp q8 with ⟨g4, q8⟩ | ⟨g4, q8⟩
  ·have c5 := ltT g4
   obtain rfl := oi q8
   refine st ?_
   simp [g4]
   have r9 := zGu fuel t1 60 300 v2 q3
   try simp [g4] at r9
   refine zAA r9 (by simp) rfl ?_
   simp [g4]
  have c6 := ltF g4
  obtain rfl := oi q8
  refine st ?_
  simp [g4]
  have r10 := zGu fuel t1 60 300 v2 q3
  try simp [g4] at r10
  refine zAA r10 (by simp) rfl ?_
  simp [g4]
 refine zAB ?_
 obtain rfl := oi h
 simp
theorem zET (fuel : Nat) (s1 : (List zJC)) (r : Int) (h : zBy fuel s1 = some r) : Pure Tryz.prog 35 [.sl (s1.map zJC.c), .fn (.func 19) [] []] (.int .i64 r) := by
 rw [zBy] at h
 refine zAO Tryz.func35 (by rfl) (by rfl) (by simp) (by simp) (by simp) <| cutA 19 0 [(0, .sl (s1.map zJC.c)), (1, .fn (.func 19) [] [])] [] <| zAM <| cutA 19 0 [(0, .sl (s1.map zJC.c)), (1, .fn (.func 19) [] []), (7, .int .i64 s1.length), (8, .int .i64 0)] [] <| zAU ?_
 obtain ⟨o4, l5, h⟩ := bs h
 refine zB2 (fun p : Nat × Nat => mkS 19 0 [(0, .sl (s1.map zJC.c)), (1, .fn (.func 19) [] []), (7, .int .i64 s1.length), (8, .int .i64 p.2)] []) (fun p => zAo fuel s1 p.1 p.2 = some o4) (fun p => p.1) (fuel, 0) l5 (zBS (by simp)) ?_
 rintro ⟨k6, i2⟩ l5
 dsimp only at l5 ⊢
 cases k6 with
 | zero =>
  rw [zAo] at l5; cases l5
 | succ k7 =>
  rw [zAo] at l5
  refine cutA 19 0 [(0, .sl (s1.map zJC.c)), (1, .fn (.func 19) [] []), (7, .int .i64 s1.length), (8, .int .i64 i2), (9, .bool (ltI ((i2 : Nat) : Int) (s1.length : Int)))] [] <| zAM <| spc l5 rfl (fun g8 l5 => ?_) fun g8 l5 => ?_
  ·have c9 := ltT g8
   refine zD3 0 rfl fun f10 => ?_
   rw [List.length_map] at f10
   refine zAF <| zAP <| zAM <| zAU <| cutA 19 0 [(0, .sl (s1.map zJC.c)), (1, .fn (.func 19) [] []), (5, .int .i64 i2), (7, .int .i64 s1.length), (8, .int .i64 i2)] [] ?_
   obtain ⟨x11, q12, l5⟩ := bs l5
   obtain ⟨v13, q14, l5⟩ := bs l5
   refine cut 19 0 [(0, .sl (s1.map zJC.c)), (1, .fn (.func 19) [] []), (5, .int .i64 i2), (7, .int .i64 s1.length), (8, .int .i64 i2), (16, .bool v13)] [] ?_ ?_
   ·refine st ?_
    simp [q12]
    have r17 := zH7 fuel x11 v13 q14
    try simp [q12] at r17
    refine zAA r17 (by simp) rfl ?_
    simp [q12]
   refine spc l5 rfl (fun g15 l5 => ?_) fun g15 l5 => ?_
   ·refine cutA 19 0 [(4, .int .i64 i2)] [] <| zAB <| zAJ <| zAE ?_
    replace h := retL l5 h
    refine zAE <| zAJ <| zAE ?_
    obtain rfl := oi h
    simp
   refine zAF <| zCx <| zAP ?_
   have q16 : Rng .i64 (((i2 : Nat) : Int) + 1) := by simp only [Rng, inR]; omega
   try simp at q16
   refine last 19 0 [(0, .sl (s1.map zJC.c)), (1, .fn (.func 19) [] []), (7, .int .i64 s1.length), (8, .int .i64 ((i2 + 1 : Nat) : Int))] [] (st (by simp [q16])) fun zz hs => ?_
   exact ⟨(k7, i2 + 1), hs, l5, by simp⟩
  have c18 := ltF g8
  refine zD3 0 rfl fun f19 => ?_
  rw [List.length_map] at f19
  refine zBR <| zAc ?_
  rcases o4 with o4 | o3
  ·cases l5
  have q20 := Sum.inr.inj (Option.some.inj l5)
  replace h := zFp h
  refine zAc <| zBQ <| zBT (t := mkS 19 0 [] []) ?_ (zBS (by simp))
  refine cutA 19 0 [(4, .int .i64 (-1))] [] <| zAB ?_
  obtain rfl := oi h
  simp
theorem zCy (fuel : Nat) (s1 : (List zJC)) (r : Bool) (h : zA8 fuel s1 = some r) : Pure Tryz.prog 18 [.sl (s1.map zJC.c), .fn (.func 19) [] []] (.bool r) := by
 rw [zA8] at h
 refine zAO Tryz.func18 (by rfl) (by rfl) (by simp) (by simp) (by simp) <| cutA 9 0 [(0, .sl (s1.map zJC.c)), (1, .fn (.func 19) [] [])] [] ?_
 obtain ⟨v2, q3, h⟩ := bs h
 refine cut 9 0 [(4, .bool (leI 0 v2))] [] ?_ ?_
 ·refine st ?_
  simp
  have r4 := zET fuel s1 v2 q3
  try simp at r4
  refine zAA r4 (by simp) rfl ?_
  simp
 refine zAB ?_
 obtain rfl := oi h
 simp
theorem zFf (fuel : Nat) (l1 : (List zJC)) (r : Bool) (h : zE3 fuel l1 = some r) : Pure Tryz.prog 6 [.sl (l1.map zJC.c)] (.bool r) := by
 rw [zE3] at h
 refine zAO Tryz.func6 (by rfl) (by rfl) (by simp) (by simp) (by simp) <| cutA 20 0 [(0, .sl (l1.map zJC.c))] [] ?_
 obtain ⟨b20, q21, h⟩ := bs h
 refine cut 20 0 [(2, .bool b20)] [] ?_ ?_
 ·rcases sp q21 with ⟨g2, q21⟩ | ⟨g2, q21⟩
  ·have c3 := ltT g2
   refine zD3 0 rfl fun f4 => ?_
   rw [List.length_map] at f4
   rcases sp q21 with ⟨g5, q21⟩ | ⟨g5, q21⟩
   ·have c6 := leT g5
    obtain rfl := oi q21
    refine st ?_
    simp [g2, g5]
   have c7 := leF g5
   rcases sp q21 with ⟨g8, q21⟩ | ⟨g8, q21⟩
   ·have c9 := ltT g8
    obtain rfl := oi q21
    refine st ?_
    simp [g2, g5, g8]
   have c10 := ltF g8
   obtain ⟨v11, q12, q21⟩ := bs q21
   obtain rfl := oi q21
   refine st ?_
   simp [g2, g5, g8]
   have r22 := zCy fuel l1 v11 q12
   try simp [g2, g5, g8] at r22
   refine zAA r22 (by simp) rfl ?_
   simp [g2, g5, g8]
  have c13 := ltF g2
  refine zD3 0 rfl fun f14 => ?_
  rw [List.length_map] at f14
  rcases sp q21 with ⟨g15, q21⟩ | ⟨g15, q21⟩
  ·have c16 := ltT g15
   obtain rfl := oi q21
   refine st ?_
   simp [g2, g15]
  have c17 := ltF g15
  obtain ⟨v18, q19, q21⟩ := bs q21
  obtain rfl := oi q21
  refine st ?_
  simp [g2, g15]
  have r23 := zCy fuel l1 v18 q19
  try simp [g2, g15] at r23
  refine zAA r23 (by simp) rfl ?_
  simp [g2, g15]
 refine zAB ?_
 obtain rfl := oi h
 simp
theorem zHD (fuel : Nat) (t1 : zJC) (r : Bool) (h : zEI fuel t1 = some r) : Pure Tryz.prog 47 [.agg t1.d] (.bool r) := by
 rw [zEI] at h
 refine zAO Tryz.func47 (by rfl) (by rfl) (by simp) (by simp) (by simp) <| cutA 6 0 [(1, .mptr 0 0)] [t1.d] ?_
 obtain ⟨v2, q3, h⟩ := bs h
 refine cut 6 0 [(2, .bool (!v2))] [t1.d] ?_ ?_
 ·refine st ?_
  simp
  have r4 := zGK fuel 4 t1 v2 q3
  try simp at r4
  refine zAA r4 (by simp) rfl ?_
  simp
 refine zAB ?_
 obtain rfl := oi h
 simp
theorem zES (fuel : Nat) (s1 : (List zJC)) (r : Int) (h : zBx fuel s1 = some r) : Pure Tryz.prog 35 [.sl (s1.map zJC.c), .fn (.func 47) [] []] (.int .i64 r) := by
 rw [zBx] at h
 refine zAO Tryz.func35 (by rfl) (by rfl) (by simp) (by simp) (by simp) <| cutA 19 0 [(0, .sl (s1.map zJC.c)), (1, .fn (.func 47) [] [])] [] <| zAM <| cutA 19 0 [(0, .sl (s1.map zJC.c)), (1, .fn (.func 47) [] []), (7, .int .i64 s1.length), (8, .int .i64 0)] [] <| zAU ?_
 obtain ⟨o4, l5, h⟩ := bs h
 refine zB2 (fun p : Nat × Nat => mkS 19 0 [(0, .sl (s1.map zJC.c)), (1, .fn (.func 47) [] []), (7, .int .i64 s1.length), (8, .int .i64 p.2)] []) (fun p => zAn fuel s1 p.1 p.2 = some o4) (fun p => p.1) (fuel, 0) l5 (zBS (by simp)) ?_
 rintro ⟨k6, i2⟩ l5
 dsimp only at l5 ⊢
 cases k6 with
 | zero =>
  rw [zAn] at l5; cases l5
 | succ k7 =>
  rw [zAn] at l5
  refine cutA 19 0 [(0, .sl (s1.map zJC.c)), (1, .fn (.func 47) [] []), (7, .int .i64 s1.length), (8, .int .i64 i2), (9, .bool (ltI ((i2 : Nat) : Int) (s1.length : Int)))] [] <| zAM <| spc l5 rfl (fun g8 l5 => ?_) fun g8 l5 => ?_
  ·have c9 := ltT g8
   refine zD3 0 rfl fun f10 => ?_
   rw [List.length_map] at f10
   refine zAF <| zAP <| zAM <| zAU <| cutA 19 0 [(0, .sl (s1.map zJC.c)), (1, .fn (.func 47) [] []), (5, .int .i64 i2), (7, .int .i64 s1.length), (8, .int .i64 i2)] [] ?_
   obtain ⟨x11, q12, l5⟩ := bs l5
   obtain ⟨v13, q14, l5⟩ := bs l5
   refine cut 19 0 [(0, .sl (s1.map zJC.c)), (1, .fn (.func 47) [] []), (5, .int .i64 i2), (7, .int .i64 s1.length), (8, .int .i64 i2), (16, .bool v13)] [] ?_ ?_
   ·refine st ?_
    simp [q12]
    have r17 := zHD fuel x11 v13 q14
    try simp [q12] at r17
    refine zAA r17 (by simp) rfl ?_
    simp [q12]
   refine spc l5 rfl (fun g15 l5 => ?_) fun g15 l5 => ?_
   ·refine cutA 19 0 [(4, .int .i64 i2)] [] <| zAB <| zAJ <| zAE ?_
    replace h := retL l5 h
    refine zAE <| zAJ <| zAE ?_
    obtain rfl := oi h
    simp
   refine zAF <| zCx <| zAP ?_
   have q16 : Rng .i64 (((i2 : Nat) : Int) + 1) := by simp only [Rng, inR]; omega
   try simp at q16
   refine last 19 0 [(0, .sl (s1.map zJC.c)), (1, .fn (.func 47) [] []), (7, .int .i64 s1.length), (8, .int .i64 ((i2 + 1 : Nat) : Int))] [] (st (by simp [q16])) fun zz hs => ?_
   exact ⟨(k7, i2 + 1), hs, l5, by simp⟩
  have c18 := ltF g8
  refine zD3 0 rfl fun f19 => ?_
  rw [List.length_map] at f19
  refine zBR <| zAc ?_
  rcases o4 with o4 | o3
  ·cases l5
  have q20 := Sum.inr.inj (Option.some.inj l5)
  replace h := zFp h
  refine zAc <| zBQ <| zBT (t := mkS 19 0 [] []) ?_ (zBS (by simp))
  refine cutA 19 0 [(4, .int .i64 (-1))] [] <| zAB ?_
  obtain rfl := oi h
  simp
theorem zD5 (fuel : Nat) (s1 : (List zJC)) (r : Bool) (h : zBl fuel s1 = some r) : Pure Tryz.prog 18 [.sl (s1.map zJC.c), .fn (.func 47) [] []] (.bool r) := by
 rw [zBl] at h
 refine zAO Tryz.func18 (by rfl) (by rfl) (by simp) (by simp) (by simp) <| cutA 9 0 [(0, .sl (s1.map zJC.c)), (1, .fn (.func 47) [] [])] [] ?_
 obtain ⟨v2, q3, h⟩ := bs h
 refine cut 9 0 [(4, .bool (leI 0 v2))] [] ?_ ?_
 ·refine st ?_
  simp
  have r4 := zES fuel s1 v2 q3
  try simp at r4
  refine zAA r4 (by simp) rfl ?_
  simp
 refine zAB ?_
 obtain rfl := oi h
 simp
theorem zF1 (fuel : Nat) (l1 : (List zJC)) (r : Bool) (h : zDg fuel l1 = some r) : Pure Tryz.prog 28 [.sl (l1.map zJC.c)] (.bool r) := by
 rw [zDg] at h
 refine zAO Tryz.func28 (by rfl) (by rfl) (by simp) (by simp) (by simp) <| cutA 11 0 [(0, .sl (l1.map zJC.c))] [] ?_
 obtain ⟨b9, q10, h⟩ := bs h
 refine cut 11 0 [(2, .bool b9)] [] ?_ ?_
 ·rcases sp q10 with ⟨g2, q10⟩ | ⟨g2, q10⟩
  ·have c3 := leT g2
   refine zD3 0 rfl fun f4 => ?_
   rw [List.length_map] at f4
   obtain ⟨v5, q6, q10⟩ := bs q10
   obtain rfl := oi q10
   refine st ?_
   simp [g2]
   have r11 := zD5 fuel l1 v5 q6
   try simp [g2] at r11
   refine zAA r11 (by simp) rfl ?_
   simp [g2]
  have c7 := leF g2
  refine zD3 0 rfl fun f8 => ?_
  rw [List.length_map] at f8
  obtain rfl := oi q10
  refine st ?_
  simp [g2]
 refine zAB ?_
 obtain rfl := oi h
 simp
theorem zFL (fuel : Nat) (l1 : (List zJC)) (r : (List UInt8)) (h : zDH fuel l1 = some r) : Pure Tryz.prog 29 [.sl (l1.map zJC.c)] (.str r) := by
 rw [zDH] at h
 refine zAO Tryz.func29 (by rfl) (by rfl) (by simp) (by simp) (by simp) <| cutA 18 0 [(0, .sl (l1.map zJC.c))] [] <| cutA 18 0 [(0, .sl (l1.map zJC.c)), (3, .mptr 0 0)] [[.baddr 66 0, .osl ⟨1, 5⟩ (([] : List UInt8).map cU)]] <| zAM <| cutA 18 0 [(3, .mptr 0 0), (6, .sl (l1.map zJC.c)), (7, .int .i64 l1.length), (8, .int .i64 0)] [[.baddr 66 0, .osl ⟨1, 5⟩ (([] : List UInt8).map cU)]] <| zAU ?_
 obtain ⟨o4, l5, h⟩ := bs h
 refine zB2 (fun p : Nat × (List UInt8) × Nat => mkS 18 0 [(3, .mptr 0 0), (6, .sl (l1.map zJC.c)), (7, .int .i64 l1.length), (8, .int .i64 p.2.2)] [[.baddr 66 0, .osl ⟨1, 5⟩ (p.2.1.map cU)]]) (fun p => zBv fuel l1 p.1 p.2.1 p.2.2 = some o4) (fun p => p.1) (fuel, ([] : List UInt8), 0) l5 (zBS (by simp)) ?_
 rintro ⟨k6, buf2, i3⟩ l5
 dsimp only at l5 ⊢
 cases k6 with
 | zero =>
  rw [zBv] at l5; cases l5
 | succ k7 =>
  rw [zBv] at l5
  refine cutA 18 0 [(3, .mptr 0 0), (6, .sl (l1.map zJC.c)), (7, .int .i64 l1.length), (8, .int .i64 i3), (9, .bool (ltI ((i3 : Nat) : Int) (l1.length : Int)))] [[.baddr 66 0, .osl ⟨1, 5⟩ (buf2.map cU)]] <| zAM <| spc l5 rfl (fun g8 l5 => ?_) fun g8 l5 => ?_
  ·have c9 := ltT g8
   refine zD3 6 rfl fun f10 => ?_
   rw [List.length_map] at f10
   refine zAF <| zAP <| zAM <| zAU ?_
   obtain ⟨x11, q12, l5⟩ := bs l5
   refine cut 18 0 [(3, .mptr 0 0), (5, .mptr 1 0), (6, .sl (l1.map zJC.c)), (7, .int .i64 l1.length), (8, .int .i64 i3)] [[.baddr 66 0, .osl ⟨1, 5⟩ (buf2.map cU)], x11.d] (st (by simp [q12])) ?_
   obtain ⟨v13, q14, l5⟩ := bs l5
   obtain ⟨s15, q16, l5⟩ := bs l5
   obtain ⟨q17, q18⟩ := zAf q16
   try simp at q17
   try simp at q18
   obtain ⟨v19, q20, l5⟩ := bs l5
   refine last 18 0 [(3, .mptr 0 0), (6, .sl (l1.map zJC.c)), (7, .int .i64 l1.length), (8, .int .i64 i3)] [[.baddr 66 0, .osl ⟨1, 5⟩ (v19.2.map cU)], x11.d] ?_ fun zz hs => ?_
   ·refine st ?_
    simp [q17, q18]
    have r22 := zF2 fuel x11 v13 q14
    try simp [q17, q18] at r22
    refine zAA r22 (by simp) rfl ?_
    simp [q17, q18]
    have r23 := (zCN s15 buf2 v19 q20).frame [0] [[.baddr 66 0, .osl ⟨1, 5⟩ (buf2.map cU)], x11.d] (by simp)
    try simp [q17, q18] at r23
    refine zAR r23 (by simp [q17, q18]) rfl ?_
    simp [q17, q18]
   refine zCx <| zBT ?_ hs
   have q21 : Rng .i64 (((i3 : Nat) : Int) + 1) := by simp only [Rng, inR]; omega
   try simp at q21
   refine last 18 0 [(3, .mptr 0 0), (6, .sl (l1.map zJC.c)), (7, .int .i64 l1.length), (8, .int .i64 ((i3 + 1 : Nat) : Int))] [[.baddr 66 0, .osl ⟨1, 5⟩ (v19.2.map cU)]] (st (by simp [q21])) fun zz hs => ?_
   exact ⟨(k7, v19.2, i3 + 1), hs, l5, by simp⟩
  have c24 := ltF g8
  refine zD3 6 rfl fun f25 => ?_
  rw [List.length_map] at f25
  refine zBR <| zAc ?_
  have q26 := Option.some.inj l5
  have q26 := q26.symm
  refine zAc <| zBQ <| zBT (t := mkS 18 0 [(3, .mptr 0 0)] [[.baddr 66 0, .osl ⟨1, 5⟩ (o4.map cU)]]) ?_ (zBS (by simp [q26]))
  obtain ⟨v27, q28, h⟩ := bs h
  refine cut 18 0 [(2, .str v27)] [[.baddr 66 0, .osl ⟨1, 5⟩ (o4.map cU)]] ?_ ?_
  ·refine st ?_
   simp
   have r29 := (zDV o4 v27 q28).frame [0] [[.baddr 66 0, .osl ⟨1, 5⟩ (o4.map cU)]] (by simp)
   try simp at r29
   refine zAR r29 (by simp) rfl ?_
   simp
  refine zAB ?_
  obtain rfl := oi h
  simp
theorem zH3 (fuel : Nat) (l1 : (List zJC)) (r : (List UInt8) × Int) (h : zEE fuel l1 = some r) : Pure Tryz.prog 11 [.sl (l1.map zJC.c)] (.tup [.str r.1, .int .i64 r.2]) := by
 rw [zEE] at h
 refine zAO Tryz.func11 (by rfl) (by rfl) (by simp) (by simp) (by simp) <| cutA 12 0 [(0, .sl (l1.map zJC.c))] [] <| zAM ?_
 obtain ⟨v2, q3, h⟩ := bs h
 refine cut 12 0 [(0, .sl (l1.map zJC.c)), (6, .bool (!v2))] [] ?_ ?_
 ·refine st ?_
  simp
  have r13 := zF1 fuel l1 v2 q3
  try simp at r13
  refine zAA r13 (by simp) rfl ?_
  simp
 refine spc h rfl (fun g4 h => ?_) fun g4 h => ?_
 ·have g5 := notT g4
  refine cutA 12 0 [(2, .str ([] : List UInt8)), (3, .int .i64 1)] [] <| zAB <| zAE ?_
  obtain rfl := oi h
  simp
 have g6 := notF g4
 refine zAF <| zAP ?_
 obtain ⟨v7, q8, h⟩ := bs h
 obtain ⟨v9, q10, h⟩ := bs h
 refine cut 12 0 [(2, .str v9.1), (3, .int .i64 v9.2)] [] ?_ ?_
 ·refine st ?_
  simp
  have r11 := zFL fuel l1 v7 q8
  try simp at r11
  refine zAA r11 (by simp) rfl ?_
  simp
  have r12 := zDv v7 v9 q10
  try simp at r12
  refine zAA r12 (by simp) rfl ?_
  simp
 refine zAB ?_
 obtain rfl := oi h
 simp
theorem zDd (op1 : Int) (r : Int) (h : zAQ op1 = some r) : Pure Tryz.prog 67 [.int .i64 op1] (.int .i64 r) := by
 rw [zAQ] at h
 refine zAO Tryz.func67 (by rfl) (by rfl) (by simp) (by simp) (by simp) <| cutA 53 0 [(0, .int .i64 op1)] [] <| zAM <| cut 53 0 [(0, .int .i64 op1), (8, .bool ((leI 1 op1) && (leI op1 5)))] [] ?_ ?_
 ·rcases tf (leI 1 op1) with g2 | g2
  ·have c3 := leT g2
   refine st ?_
   simp [g2]
  have c4 := leF g2
  refine st ?_
  simp [g2]
 rcases sp h with ⟨g5, h⟩ | ⟨g5, h⟩
 ·obtain ⟨g6, g7⟩ := andT g5
  have c8 := leT g6
  have c9 := leT g7
  refine zBE rfl g5 <| cutA 53 0 [(2, .int .i64 1)] [] <| zAB <| zAE ?_
  obtain rfl := oi h
  simp
 refine zGH rfl g5 <| zAF <| zAP <| zAM <| cut 53 0 [(0, .int .i64 op1), (14, .bool ((leI 11 op1) && (leI op1 15)))] [] ?_ ?_
 ·rcases tf (leI 11 op1) with g10 | g10
  ·have c11 := leT g10
   refine st ?_
   simp [g10]
  have c12 := leF g10
  refine st ?_
  simp [g10]
 rcases sp h with ⟨g13, h⟩ | ⟨g13, h⟩
 ·obtain ⟨g14, g15⟩ := andT g13
  have c16 := leT g14
  have c17 := leT g15
  refine zBE rfl g13 <| cutA 53 0 [(2, .int .i64 2)] [] <| zAB <| zAE ?_
  obtain rfl := oi h
  simp
 refine zGH rfl g13 <| zAF <| zAP <| zAM <| cut 53 0 [(0, .int .i64 op1), (24, .bool ((leI 21 op1) && ((leI op1 34) && (!(eqI op1 30)))))] [] ?_ ?_
 ·rcases tf (leI 21 op1) with g18 | g18
  ·have c19 := leT g18
   rcases tf (leI op1 34) with g20 | g20
   ·have c21 := leT g20
    refine st ?_
    simp [g18, g20]
   have c22 := leF g20
   refine st ?_
   simp [g18, g20]
  have c23 := leF g18
  refine st ?_
  simp [g18]
 rcases sp h with ⟨g24, h⟩ | ⟨g24, h⟩
 ·obtain ⟨g25, g26⟩ := andT g24
  have c27 := leT g25
  obtain ⟨g28, g29⟩ := andT g26
  have c30 := leT g28
  have g31 := notT g29
  have c32 := eqF g31
  refine zBE rfl g24 <| cutA 53 0 [(2, .int .i64 3)] [] <| zAB <| zAE ?_
  obtain rfl := oi h
  simp
 refine zGH rfl g24 <| zAF <| zAP <| zAM <| cut 53 0 [(0, .int .i64 op1), (34, .bool ((leI 41 op1) && ((leI op1 50) && (!(eqI op1 45)))))] [] ?_ ?_
 ·rcases tf (leI 41 op1) with g33 | g33
  ·have c34 := leT g33
   rcases tf (leI op1 50) with g35 | g35
   ·have c36 := leT g35
    refine st ?_
    simp [g33, g35]
   have c37 := leF g35
   refine st ?_
   simp [g33, g35]
  have c38 := leF g33
  refine st ?_
  simp [g33]
 rcases sp h with ⟨g39, h⟩ | ⟨g39, h⟩
 ·obtain ⟨g40, g41⟩ := andT g39
  have c42 := leT g40
  obtain ⟨g43, g44⟩ := andT g41
  have c45 := leT g43
  have g46 := notT g44
  have c47 := eqF g46
  refine zBE rfl g39 <| cutA 53 0 [(2, .int .i64 4)] [] <| zAB <| zAE ?_
  obtain rfl := oi h
  simp
 refine zGH rfl g39 <| zAF <| zAP <| zAM <| cut 53 0 [(0, .int .i64 op1), (40, .bool ((leI 61 op1) && (leI op1 66)))] [] ?_ ?_
 ·rcases tf (leI 61 op1) with g48 | g48
  ·have c49 := leT g48
   refine st ?_
   simp [g48]
  have c50 := leF g48
  refine st ?_
  simp [g48]
 rcases sp h with ⟨g51, h⟩ | ⟨g51, h⟩
 ·obtain ⟨g52, g53⟩ := andT g51
  have c54 := leT g52
  have c55 := leT g53
  refine zBE rfl g51 <| cutA 53 0 [(2, .int .i64 5)] [] <| zAB <| zAE ?_
  obtain rfl := oi h
  simp
 refine zGH rfl g51 <| zAF <| zAP <| zAM <| cut 53 0 [(0, .int .i64 op1), (46, .bool ((leI 71 op1) && (leI op1 74)))] [] ?_ ?_
 ·rcases tf (leI 71 op1) with g56 | g56
  ·have c57 := leT g56
   refine st ?_
   simp [g56]
  have c58 := leF g56
  refine st ?_
  simp [g56]
 rcases sp h with ⟨g59, h⟩ | ⟨g59, h⟩
 ·obtain ⟨g60, g61⟩ := andT g59
  have c62 := leT g60
  have c63 := leT g61
  refine zBE rfl g59 <| cutA 53 0 [(2, .int .i64 6)] [] <| zAB <| zAE ?_
  obtain rfl := oi h
  simp
 refine zGH rfl g59 <| zAF <| zAP <| zAM <| cut 53 0 [(52, .bool ((leI 81 op1) && (leI op1 88)))] [] ?_ ?_
 ·rcases tf (leI 81 op1) with g64 | g64
  ·have c65 := leT g64
   refine st ?_
   simp [g64]
  have c66 := leF g64
  refine st ?_
  simp [g64]
 rcases sp h with ⟨g67, h⟩ | ⟨g67, h⟩
 ·obtain ⟨g68, g69⟩ := andT g67
  have c70 := leT g68
  have c71 := leT g69
  refine zBE rfl g67 <| cutA 53 0 [(2, .int .i64 7)] [] <| zAB <| zAE ?_
  obtain rfl := oi h
  simp
 refine zGH rfl g67 <| zAF <| zAP <| cutA 53 0 [(2, .int .i64 0)] [] <| zAB ?_
 obtain rfl := oi h
 simp
theorem zEa (op1 : Int) (cat2 : Int) (r : Bool) (h : zDA op1 cat2 = some r) : Pure Tryz.prog 40 [.int .i64 op1, .int .i64 cat2] (.bool r) := by
 rw [zDA] at h
 refine zAO Tryz.func40 (by rfl) (by rfl) (by simp) (by simp) (by simp) <| cutA 21 0 [(0, .int .i64 op1), (1, .int .i64 cat2)] [] ?_
 obtain ⟨b14, q15, h⟩ := bs h
 refine cut 21 0 [(4, .bool b14)] [] ?_ ?_
 ·obtain ⟨v3, q4, q15⟩ := bs q15
  rcases sp q15 with ⟨g5, q15⟩ | ⟨g5, q15⟩
  ·have c6 := eqT g5
   obtain rfl := oi q15
   refine st ?_
   simp [g5]
   have r16 := zDd op1 v3 q4
   try simp [g5] at r16
   refine zAA r16 (by simp) rfl ?_
   simp [g5]
  have c7 := eqF g5
  rcases sp q15 with ⟨g8, q15⟩ | ⟨g8, q15⟩
  ·have c9 := eqT g8
   rcases sp q15 with ⟨g10, q15⟩ | ⟨g10, q15⟩
   ·have c11 := eqT g10
    obtain rfl := oi q15
    refine st ?_
    simp [g5, g8, g10]
    have r17 := zDd op1 v3 q4
    try simp [g5, g8, g10] at r17
    refine zAA r17 (by simp) rfl ?_
    simp [g5, g8, g10]
   have c12 := eqF g10
   obtain rfl := oi q15
   refine st ?_
   simp [g5, g8, g10]
   have r18 := zDd op1 v3 q4
   try simp [g5, g8, g10] at r18
   refine zAA r18 (by simp) rfl ?_
   simp [g5, g8, g10]
  have c13 := eqF g8
  obtain rfl := oi q15
  refine st ?_
  simp [g5, g8]
  have r19 := zDd op1 v3 q4
  try simp [g5, g8] at r19
  refine zAA r19 (by simp) rfl ?_
  simp [g5, g8]
 refine zAB ?_
 obtain rfl := oi h
 simp
theorem zFy (fuel : Nat) : (∀ (t1 : zJC) (r : Int) (_ : zDQ fuel t1 = some r), Pure Tryz.prog 68 [.agg t1.d] (.int .i64 r)) := by
 induction fuel with
 | zero => intro t1 r h; rw [zDQ] at h; cases h
 | succ fuel ih_ref03_Size =>
  intro t1 r h
  rw [zDQ] at h
  refine zAO Tryz.func68 (by rfl) (by rfl) (by simp) (by simp) (by simp) <| cutA 21 0 [(1, .mptr 0 0)] [t1.d] <| cutA 21 0 [(1, .mptr 0 0), (3, .int .i64 1)] [t1.d] <| zAM <| cutA 21 0 [(1, .mptr 0 0), (3, .int .i64 1), (4, .int .i64 0)] [t1.d] <| zAU ?_
  obtain ⟨o4, l5, h⟩ := bs h
  refine zB2 (fun p : Nat × Int × Nat => mkS 21 0 [(1, .mptr 0 0), (3, .int .i64 p.2.1), (4, .int .i64 p.2.2)] [t1.d]) (fun p => zDB (zDQ fuel) t1 p.1 p.2.1 p.2.2 = some o4) (fun p => p.1) (fuel, 1, 0) l5 (zBS (by simp)) ?_
  rintro ⟨k6, n2, i3⟩ l5
  dsimp only at l5 ⊢
  cases k6 with
  | zero =>
   rw [zDB] at l5; cases l5
  | succ k7 =>
   rw [zDB] at l5
   refine zAM <| cutA 21 0 [(1, .mptr 0 0), (3, .int .i64 n2), (4, .int .i64 i3), (9, .bool (ltI ((i3 : Nat) : Int) (t1.L.length : Int)))] [t1.d] <| spc l5 rfl (fun g8 l5 => ?_) fun g8 l5 => ?_
   ·have c9 := ltT g8
    refine zCJ 0 4 rfl rfl rfl fun f10 => ?_
    rw [List.length_map] at f10
    refine zAF <| zAP <| zAM <| zAU ?_
    obtain ⟨x11, q12, l5⟩ := bs l5
    obtain ⟨v13, q14, l5⟩ := bs l5
    obtain ⟨n15, q16, l5⟩ := bs l5
    obtain ⟨q17, q18⟩ := zFi q16
    try simp at q17
    try simp at q18
    have c19 := q17; simp only [Rng, inR] at c19
    refine last 21 0 [(1, .mptr 0 0), (3, .int .i64 n15), (4, .int .i64 i3)] [t1.d] ?_ fun zz hs => ?_
    ·refine st ?_
     simp [q12, q17, q18]
     have r21 := ih_ref03_Size x11 v13 q14
     try simp [q12, q17, q18] at r21
     refine zAA r21 (by simp) rfl ?_
     simp [q12, q17, q18]
    refine zCx <| zBT ?_ hs
    have q20 : Rng .i64 (((i3 : Nat) : Int) + 1) := by simp only [Rng, inR]; omega
    try simp at q20
    refine last 21 0 [(1, .mptr 0 0), (3, .int .i64 n15), (4, .int .i64 ((i3 + 1 : Nat) : Int))] [t1.d] (st (by simp [q20])) fun zz hs => ?_
    exact ⟨(k7, n15, i3 + 1), hs, l5, by simp⟩
   have c22 := ltF g8
   refine zCJ 0 4 rfl rfl rfl fun f23 => ?_
   rw [List.length_map] at f23
   refine zBR <| zAc ?_
   have q24 := Option.some.inj l5
   have q24 := q24.symm
   refine zAc <| zBQ <| zBT (t := mkS 21 0 [(3, .int .i64 o4)] [t1.d]) ?_ (zBS (by simp [q24]))
   refine cutA 21 0 [(2, .int .i64 o4)] [t1.d] <| zAB ?_
   obtain rfl := oi h
   simp
theorem zGn (fuel : Nat) : (∀ (t1 : zJC) (r : Int) (_ : zDC fuel t1 = some r), Pure Tryz.prog 69 [.agg t1.d] (.int .i64 r)) := by
 induction fuel with
 | zero => intro t1 r h; rw [zDC] at h; cases h
 | succ fuel zIz =>
  intro t1 r h
  rw [zDC] at h
  refine zAO Tryz.func69 (by rfl) (by rfl) (by simp) (by simp) (by simp) <| cutA 22 0 [(1, .mptr 0 0)] [t1.d] <| cutA 22 0 [(1, .mptr 0 0), (3, .int .i64 0)] [t1.d] <| zAM <| cutA 22 0 [(1, .mptr 0 0), (3, .int .i64 0), (4, .int .i64 0)] [t1.d] <| zAU ?_
  obtain ⟨o4, l5, h⟩ := bs h
  refine zB2 (fun p : Nat × Int × Nat => mkS 22 0 [(1, .mptr 0 0), (3, .int .i64 p.2.1), (4, .int .i64 p.2.2)] [t1.d]) (fun p => zCt (zDC fuel) t1 p.1 p.2.1 p.2.2 = some o4) (fun p => p.1) (fuel, 0, 0) l5 (zBS (by simp)) ?_
  rintro ⟨k6, n2, i3⟩ l5
  dsimp only at l5 ⊢
  cases k6 with
  | zero =>
   rw [zCt] at l5; cases l5
  | succ k7 =>
   rw [zCt] at l5
   refine zAM <| cutA 22 0 [(1, .mptr 0 0), (3, .int .i64 n2), (4, .int .i64 i3), (9, .bool (ltI ((i3 : Nat) : Int) (t1.L.length : Int)))] [t1.d] <| spc l5 rfl (fun g8 l5 => ?_) fun g8 l5 => ?_
   ·have c9 := ltT g8
    refine zCJ 0 4 rfl rfl rfl fun f10 => ?_
    rw [List.length_map] at f10
    refine zAF <| zAP <| zAM <| zAU ?_
    obtain ⟨x11, q12, l5⟩ := bs l5
    obtain ⟨v13, q14, l5⟩ := bs l5
    refine last 22 0 [(1, .mptr 0 0), (3, .int .i64 (maxI n2 v13)), (4, .int .i64 i3)] [t1.d] ?_ fun zz hs => ?_
    ·refine st ?_
     simp [q12]
     have r16 := zIz x11 v13 q14
     try simp [q12] at r16
     refine zAA r16 (by simp) rfl ?_
     simp [q12]
    refine zCx <| zBT ?_ hs
    have q15 : Rng .i64 (((i3 : Nat) : Int) + 1) := by simp only [Rng, inR]; omega
    try simp at q15
    refine last 22 0 [(1, .mptr 0 0), (3, .int .i64 (maxI n2 v13)), (4, .int .i64 ((i3 + 1 : Nat) : Int))] [t1.d] (st (by simp [q15])) fun zz hs => ?_
    exact ⟨(k7, maxI n2 v13, i3 + 1), hs, l5, by simp⟩
   have c17 := ltF g8
   refine zCJ 0 4 rfl rfl rfl fun f18 => ?_
   rw [List.length_map] at f18
   refine zBR <| zAc ?_
   have q19 := Option.some.inj l5
   have q19 := q19.symm
   refine zAc <| zBQ <| zBT (t := mkS 22 0 [(3, .int .i64 o4)] [t1.d]) ?_ (zBS (by simp [q19]))
   obtain ⟨n20, q21, h⟩ := bs h
   obtain ⟨q22, q23⟩ := zFi q21
   try simp at q22
   try simp at q23
   have c24 := q22; simp only [Rng, inR] at c24
   refine cut 22 0 [(2, .int .i64 n20)] [t1.d] (st (by simp [q22, q23])) <| zAB ?_
   obtain rfl := oi h
   simp
theorem zAG (t1 : zJC) (n2 : Bool) (s3 : Bool) (names4 : Bool) (r : Bool) (h : zAb t1 n2 s3 names4 = some r) : Pure Tryz.prog 131 [.agg t1.d, .bool n2, .bool s3, .bool names4] (.bool r) := by
 rw [zAb] at h
 refine zAO Tryz.func131 (by rfl) (by rfl) (by simp) (by simp) (by simp) <| cutA 32 0 [(1, .bool n2), (2, .bool s3), (3, .bool names4), (4, .mptr 0 0)] [t1.d] <| cut 32 0 [(8, .bool (if n2 then if s3 then names4 || (eqI (t1.Names.length : Int) 0) else (eqS t1.S ([] : List UInt8)) && (names4 || (eqI (t1.Names.length : Int) 0)) else (eqI t1.N 0) && (if s3 then names4 || (eqI (t1.Names.length : Int) 0) else (eqS t1.S ([] : List UInt8)) && (names4 || (eqI (t1.Names.length : Int) 0)))))] [t1.d] ?_ ?_
 ·rcases tf (n2) with g5 | g5
  ·rcases tf (s3) with g6 | g6
   ·rcases tf (names4) with g7 | g7
    ·refine st ?_
     simp [g5, g6, g7]
    refine st ?_
    simp [g5, g6, g7]
   rcases tf (eqS t1.S ([] : List UInt8)) with g8 | g8
   ·rcases tf (names4) with g9 | g9
    ·refine st ?_
     simp [g5, g6, g8, g9]
    refine st ?_
    simp [g5, g6, g8, g9]
   refine st ?_
   simp [g5, g6, g8]
  rcases tf (eqI t1.N 0) with g10 | g10
  ·have c11 := eqT g10
   rcases tf (s3) with g12 | g12
   ·rcases tf (names4) with g13 | g13
    ·refine st ?_
     simp [g5, g10, g12, g13]
    refine st ?_
    simp [g5, g10, g12, g13]
   rcases tf (eqS t1.S ([] : List UInt8)) with g14 | g14
   ·rcases tf (names4) with g15 | g15
    ·refine st ?_
     simp [g5, g10, g12, g14, g15]
    refine st ?_
    simp [g5, g10, g12, g14, g15]
   refine st ?_
   simp [g5, g10, g12, g14]
  have c16 := eqF g10
  refine st ?_
  simp [g5, g10]
 refine zAB ?_
 obtain rfl := oi h
 simp
theorem zDN (c1 : UInt8) (r : Bool) (h : zDZ c1 = some r) : Pure Tryz.prog 149 [.int .u8 c1.toNat] (.bool r) := by
 rw [zDZ] at h
 refine zAO Tryz.func149 (by rfl) (by rfl) (by simp) (by simp) (by simp) <| cutA 9 0 [(0, .int .u8 c1.toNat)] [] <| cut 9 0 [(2, .bool ((leI 97 (c1.toNat : Int)) && (leI (c1.toNat : Int) 122)))] [] ?_ ?_
 ·rcases tf (leI 97 (c1.toNat : Int)) with g2 | g2
  ·have c3 := leT g2
   refine st ?_
   simp [g2]
  have c4 := leF g2
  refine st ?_
  simp [g2]
 refine zAB ?_
 obtain rfl := oi h
 simp
theorem zEb (c1 : UInt8) (r : Bool) (h : zDR c1 = some r) : Pure Tryz.prog 105 [.int .u8 c1.toNat] (.bool r) := by
 rw [zDR] at h
 refine zAO Tryz.func105 (by rfl) (by rfl) (by simp) (by simp) (by simp) <| cutA 9 0 [(0, .int .u8 c1.toNat)] [] <| cut 9 0 [(2, .bool ((leI 65 (c1.toNat : Int)) && (leI (c1.toNat : Int) 90)))] [] ?_ ?_
 ·rcases tf (leI 65 (c1.toNat : Int)) with g2 | g2
  ·have c3 := leT g2
   refine st ?_
   simp [g2]
  have c4 := leF g2
  refine st ?_
  simp [g2]
 refine zAB ?_
 obtain rfl := oi h
 simp
theorem zGp (c1 : UInt8) (r : Bool) (h : zF7 c1 = some r) : Pure Tryz.prog 150 [.int .u8 c1.toNat] (.bool r) := by
 rw [zF7] at h
 refine zAO Tryz.func150 (by rfl) (by rfl) (by simp) (by simp) (by simp) <| cutA 9 0 [(0, .int .u8 c1.toNat)] [] <| cut 9 0 [(2, .bool ((leI 48 (c1.toNat : Int)) && (leI (c1.toNat : Int) 57)))] [] ?_ ?_
 ·rcases tf (leI 48 (c1.toNat : Int)) with g2 | g2
  ·have c3 := leT g2
   refine st ?_
   simp [g2]
  have c4 := leF g2
  refine st ?_
  simp [g2]
 refine zAB ?_
 obtain rfl := oi h
 simp
theorem zIt (c1 : UInt8) (r : Bool) (h : zEQ c1 = some r) : Pure Tryz.prog 139 [.int .u8 c1.toNat] (.bool r) := by
 rw [zEQ] at h
 refine zAO Tryz.func139 (by rfl) (by rfl) (by simp) (by simp) (by simp) <| cutA 17 0 [(0, .int .u8 c1.toNat)] [] ?_
 obtain ⟨b11, q12, h⟩ := bs h
 refine cut 17 0 [(2, .bool b11)] [] ?_ ?_
 ·obtain ⟨v2, q3, q12⟩ := bs q12
  rcases sp q12 with ⟨g4, q12⟩ | ⟨g4, q12⟩
  ·obtain rfl := oi q12
   refine st ?_
   simp [g4]
   have r13 := zDN c1 v2 q3
   try simp [g4] at r13
   refine zAA r13 (by simp) rfl ?_
   simp [g4]
  obtain ⟨v5, q6, q12⟩ := bs q12
  rcases sp q12 with ⟨g7, q12⟩ | ⟨g7, q12⟩
  ·obtain rfl := oi q12
   refine st ?_
   simp [g4, g7]
   have r14 := zDN c1 v2 q3
   try simp [g4, g7] at r14
   refine zAA r14 (by simp) rfl ?_
   simp [g4, g7]
   have r15 := zEb c1 v5 q6
   try simp [g4, g7] at r15
   refine zAA r15 (by simp) rfl ?_
   simp [g4, g7]
  obtain ⟨v8, q9, q12⟩ := bs q12
  rcases sp q12 with ⟨g10, q12⟩ | ⟨g10, q12⟩
  ·obtain rfl := oi q12
   refine st ?_
   simp [g4, g7, g10]
   have r16 := zDN c1 v2 q3
   try simp [g4, g7, g10] at r16
   refine zAA r16 (by simp) rfl ?_
   simp [g4, g7, g10]
   have r17 := zEb c1 v5 q6
   try simp [g4, g7, g10] at r17
   refine zAA r17 (by simp) rfl ?_
   simp [g4, g7, g10]
   have r18 := zGp c1 v8 q9
   try simp [g4, g7, g10] at r18
   refine zAA r18 (by simp) rfl ?_
   simp [g4, g7, g10]
  obtain rfl := oi q12
  refine st ?_
  simp [g4, g7, g10]
  have r19 := zDN c1 v2 q3
  try simp [g4, g7, g10] at r19
  refine zAA r19 (by simp) rfl ?_
  simp [g4, g7, g10]
  have r20 := zEb c1 v5 q6
  try simp [g4, g7, g10] at r20
  refine zAA r20 (by simp) rfl ?_
  simp [g4, g7, g10]
  have r21 := zGp c1 v8 q9
  try simp [g4, g7, g10] at r21
  refine zAA r21 (by simp) rfl ?_
  simp [g4, g7, g10]
 refine zAB ?_
 obtain rfl := oi h
 simp
theorem zGo (fuel : Nat) (s1 : (List UInt8)) (r : Bool) (h : zDr fuel s1 = some r) : Pure Tryz.prog 125 [.str s1] (.bool r) := by
 rw [zDr] at h
 refine zAO Tryz.func125 (by rfl) (by rfl) (by simp) (by simp) (by simp) <| cutA 15 0 [(0, .str s1)] [] <| zAM <| cutA 15 0 [(0, .str s1), (3, .int .i64 0)] [] <| zAU ?_
 obtain ⟨o4, l5, h⟩ := bs h
 refine zB2 (fun p : Nat × Nat => mkS 15 0 [(0, .str s1), (3, .int .i64 p.2)] []) (fun p => zCu s1 p.1 p.2 = some o4) (fun p => p.1) (fuel, 0) l5 (zBS (by simp)) ?_
 rintro ⟨k6, i2⟩ l5
 dsimp only at l5 ⊢
 cases k6 with
 | zero =>
  rw [zCu] at l5; cases l5
 | succ k7 =>
  rw [zCu] at l5
  refine zAM <| cutA 15 0 [(0, .str s1), (3, .int .i64 i2), (7, .bool (ltI ((i2 : Nat) : Int) (s1.length : Int)))] [] <| spc l5 rfl (fun g8 l5 => ?_) fun g8 l5 => ?_
  ·have c9 := ltT g8
   refine zGX 0 rfl fun f10 => ?_
   refine zAF <| zAP <| zAM <| zAU ?_
   obtain ⟨c11, q12, l5⟩ := bs l5
   obtain ⟨v13, q14, l5⟩ := bs l5
   refine cut 15 0 [(0, .str s1), (3, .int .i64 i2), (14, .bool (!v13))] [] ?_ ?_
   ·refine st ?_
    simp [q12]
    have r19 := zIt c11 v13 q14
    try simp [q12] at r19
    refine zAA r19 (by simp) rfl ?_
    simp [q12]
   refine spc l5 rfl (fun g15 l5 => ?_) fun g15 l5 => ?_
   ·have g16 := notT g15
    refine cutA 15 0 [(2, .bool false)] [] <| zAB <| zAJ <| zAE ?_
    replace h := retL l5 h
    refine zAE <| zAJ <| zAE ?_
    obtain rfl := oi h
    simp
   have g17 := notF g15
   refine zAF <| zCx <| zAP ?_
   have q18 : Rng .i64 (((i2 : Nat) : Int) + 1) := by simp only [Rng, inR]; omega
   try simp at q18
   refine last 15 0 [(0, .str s1), (3, .int .i64 ((i2 + 1 : Nat) : Int))] [] (st (by simp [q18])) fun zz hs => ?_
   exact ⟨(k7, i2 + 1), hs, l5, by simp⟩
  have c20 := ltF g8
  refine zGX 0 rfl fun f21 => ?_
  refine zBR <| zAc ?_
  rcases o4 with o4 | o3
  ·cases l5
  have q22 := Sum.inr.inj (Option.some.inj l5)
  replace h := zFp h
  refine zAc <| zBQ <| zBT (t := mkS 15 0 [] []) ?_ (zBS (by simp))
  refine cutA 15 0 [(2, .bool true)] [] <| zAB ?_
  obtain rfl := oi h
  simp
theorem zIs (fuel : Nat) (s1 : (List UInt8)) (r : Bool) (h : zFQ fuel s1 = some r) : Pure Tryz.prog 147 [.str s1] (.bool r) := by
 rw [zFQ] at h
 refine zAO Tryz.func147 (by rfl) (by rfl) (by simp) (by simp) (by simp) <| cutA 26 0 [(0, .str s1)] [] ?_
 obtain ⟨b26, q27, h⟩ := bs h
 refine cut 26 0 [(2, .bool b26)] [] ?_ ?_
 ·rcases sp q27 with ⟨g2, q27⟩ | ⟨g2, q27⟩
  ·have c3 := leT g2
   refine zGX 0 rfl fun f4 => ?_
   rcases sp q27 with ⟨g5, q27⟩ | ⟨g5, q27⟩
   ·have c6 := leT g5
    obtain ⟨c7, q8, q27⟩ := bs q27
    rcases sp q27 with ⟨g9, q27⟩ | ⟨g9, q27⟩
    ·have c10 := eqT g9
     obtain ⟨c11, q12, q27⟩ := bs q27
     obtain ⟨v13, q14, q27⟩ := bs q27
     rcases sp q27 with ⟨g15, q27⟩ | ⟨g15, q27⟩
     ·obtain ⟨s16, q17, q27⟩ := bs q27
      obtain ⟨q18, q19⟩ := zEW q17
      try simp at q18
      try simp at q19
      obtain ⟨v20, q21, q27⟩ := bs q27
      obtain rfl := oi q27
      refine st ?_
      simp [g2, g5, q8, g9, q12, g15, q18, q19]
      have r28 := zDN c11 v13 q14
      try simp [g2, g5, q8, g9, q12, g15, q18, q19] at r28
      refine zAA r28 (by simp) rfl ?_
      simp [g2, g5, q8, g9, q12, g15, q18, q19]
      have r29 := zGo fuel s16 v20 q21
      try simp [g2, g5, q8, g9, q12, g15, q18, q19] at r29
      refine zAA r29 (by simp) rfl ?_
      simp [g2, g5, q8, g9, q12, g15, q18, q19]
     obtain rfl := oi q27
     refine st ?_
     simp [g2, g5, q8, g9, q12, g15]
     have r30 := zDN c11 v13 q14
     try simp [g2, g5, q8, g9, q12, g15] at r30
     refine zAA r30 (by simp) rfl ?_
     simp [g2, g5, q8, g9, q12, g15]
    have c22 := eqF g9
    obtain rfl := oi q27
    refine st ?_
    simp [g2, g5, q8, g9]
   have c23 := leF g5
   obtain rfl := oi q27
   refine st ?_
   simp [g2, g5]
  have c24 := leF g2
  refine zGX 0 rfl fun f25 => ?_
  obtain rfl := oi q27
  refine st ?_
  simp [g2]
 refine zAB ?_
 obtain rfl := oi h
 simp
theorem zE8 (fuel : Nat) (s1 : (List UInt8)) (r : Bool) (h : zDI fuel s1 = some r) : Pure Tryz.prog 132 [.str s1] (.bool r) := by
 rw [zDI] at h
 refine zAO Tryz.func132 (by rfl) (by rfl) (by simp) (by simp) (by simp) <| cutA 5 0 [(0, .str s1)] [] ?_
 obtain ⟨v2, q3, h⟩ := bs h
 refine cut 5 0 [(2, .bool v2)] [] ?_ ?_
 ·refine st ?_
  simp
  have r4 := zIs fuel s1 v2 q3
  try simp at r4
  refine zAA r4 (by simp) rfl ?_
  simp
 refine zAB ?_
 obtain rfl := oi h
 simp
theorem zEy (fuel : Nat) (s1 : (List UInt8)) (r : Bool) (h : zEs fuel s1 = some r) : Pure Tryz.prog 104 [.str s1] (.bool r) := by
 rw [zEs] at h
 refine zAO Tryz.func104 (by rfl) (by rfl) (by simp) (by simp) (by simp) <| cutA 15 0 [(0, .str s1)] [] ?_
 obtain ⟨b12, q13, h⟩ := bs h
 refine cut 15 0 [(2, .bool b12)] [] ?_ ?_
 ·rcases sp q13 with ⟨g2, q13⟩ | ⟨g2, q13⟩
  ·have c3 := leT g2
   refine zGX 0 rfl fun f4 => ?_
   rcases sp q13 with ⟨g5, q13⟩ | ⟨g5, q13⟩
   ·have c6 := leT g5
    obtain ⟨v7, q8, q13⟩ := bs q13
    obtain rfl := oi q13
    refine st ?_
    simp [g2, g5]
    have r14 := zGo fuel s1 v7 q8
    try simp [g2, g5] at r14
    refine zAA r14 (by simp) rfl ?_
    simp [g2, g5]
   have c9 := leF g5
   obtain rfl := oi q13
   refine st ?_
   simp [g2, g5]
  have c10 := leF g2
  refine zGX 0 rfl fun f11 => ?_
  obtain rfl := oi q13
  refine st ?_
  simp [g2]
 refine zAB ?_
 obtain rfl := oi h
 simp
theorem ref01_Keys_ok (r : (List (List UInt8))) (h : zFF = some r) : Pure Tryz.prog 158 [] (.sl (r.map cS)) := by
 rw [zFF] at h
 refine zAO Tryz.func158 (by rfl) (by rfl) (by simp) (by simp) (by simp) <| cutA 2 0 [] [] ?_
 obtain ⟨l1, q2, h⟩ := bs h
 obtain ⟨q3, q4⟩ := zD6 q2
 refine cut 2 0 [(0, .osl ⟨1, 9⟩ (l1.map cS))] [] (st (by simp [q3, q4])) <| zAB ?_
 obtain rfl := oi h
 simp
theorem ref01_Find_ok (fuel : Nat) (l1 : (List (List UInt8))) (s2 : (List UInt8)) (r : Int) (h : zFl fuel l1 s2 = some r) : Pure Tryz.prog 157 [.sl (l1.map cS), .str s2] (.int .i64 r) := by
 rw [zFl] at h
 refine zAO Tryz.func157 (by rfl) (by rfl) (by simp) (by simp) (by simp) <| cutA 19 0 [(0, .sl (l1.map cS)), (1, .str s2)] [] <| zAM <| cutA 19 0 [(0, .sl (l1.map cS)), (1, .str s2), (5, .int .i64 0)] [] <| zAU ?_
 obtain ⟨o5, l6, h⟩ := bs h
 refine zB2 (fun p : Nat × Nat => mkS 19 0 [(0, .sl (l1.map cS)), (1, .str s2), (5, .int .i64 p.2)] []) (fun p => zDD l1 s2 p.1 p.2 = some o5) (fun p => p.1) (fuel, 0) l6 (zBS (by simp)) ?_
 rintro ⟨k7, i3⟩ l6
 dsimp only at l6 ⊢
 cases k7 with
 | zero =>
  rw [zDD] at l6; cases l6
 | succ k8 =>
  rw [zDD] at l6
  refine zAM <| cutA 19 0 [(0, .sl (l1.map cS)), (1, .str s2), (5, .int .i64 i3), (9, .bool (ltI ((i3 : Nat) : Int) (l1.length : Int)))] [] <| spc l6 rfl (fun g9 l6 => ?_) fun g9 l6 => ?_
  ·have c10 := ltT g9
   refine zD3 0 rfl fun f11 => ?_
   rw [List.length_map] at f11
   refine zAF <| zAP <| zAM <| zAU ?_
   obtain ⟨x12, q13, l6⟩ := bs l6
   refine cut 19 0 [(0, .sl (l1.map cS)), (1, .str s2), (5, .int .i64 i3), (17, .bool (eqS x12 s2))] [] (st (by simp [q13])) <| spc l6 rfl (fun g14 l6 => ?_) fun g14 l6 => ?_
   ·refine cutA 19 0 [(4, .int .i64 i3)] [] <| zAB <| zAJ <| zAE ?_
    replace h := retL l6 h
    refine zAE <| zAJ <| zAE ?_
    obtain rfl := oi h
    simp
   refine zAF <| zCx <| zAP ?_
   have q15 : Rng .i64 (((i3 : Nat) : Int) + 1) := by simp only [Rng, inR]; omega
   try simp at q15
   refine last 19 0 [(0, .sl (l1.map cS)), (1, .str s2), (5, .int .i64 ((i3 + 1 : Nat) : Int))] [] (st (by simp [q15])) fun zz hs => ?_
   exact ⟨(k8, i3 + 1), hs, l6, by simp⟩
  have c16 := ltF g9
  refine zD3 0 rfl fun f17 => ?_
  rw [List.length_map] at f17
  refine zBR <| zAc ?_
  rcases o5 with o5 | o4
  ·cases l6
  have q18 := Sum.inr.inj (Option.some.inj l6)
  replace h := zFp h
  refine zAc <| zBQ <| zBT (t := mkS 19 0 [] []) ?_ (zBS (by simp))
  refine cutA 19 0 [(4, .int .i64 (-1))] [] <| zAB ?_
  obtain rfl := oi h
  simp
theorem zH1 (fuel : Nat) (s1 : (List UInt8)) (r : Bool) (h : zEx fuel s1 = some r) : Pure Tryz.prog 148 [.str s1] (.bool r) := by
 rw [zEx] at h
 refine zAO Tryz.func148 (by rfl) (by rfl) (by simp) (by simp) (by simp) <| cutA 16 0 [(0, .str s1)] [] ?_
 obtain ⟨b14, q15, h⟩ := bs h
 refine cut 16 0 [(2, .bool b14)] [] ?_ ?_
 ·obtain ⟨v2, q3, q15⟩ := bs q15
  rcases sp q15 with ⟨g4, q15⟩ | ⟨g4, q15⟩
  ·obtain ⟨c5, q6, q15⟩ := bs q15
   obtain ⟨v7, q8, q15⟩ := bs q15
   rcases sp q15 with ⟨g9, q15⟩ | ⟨g9, q15⟩
   ·obtain ⟨v10, q11, q15⟩ := bs q15
    obtain ⟨v12, q13, q15⟩ := bs q15
    obtain rfl := oi q15
    refine st ?_
    simp [g4, q6, g9]
    have r16 := zEy fuel s1 v2 q3
    try simp [g4, q6, g9] at r16
    refine zAA r16 (by simp) rfl ?_
    simp [g4, q6, g9]
    have r17 := zDN c5 v7 q8
    try simp [g4, q6, g9] at r17
    refine zAA r17 (by simp) rfl ?_
    simp [g4, q6, g9]
    have r18 := ref01_Keys_ok v10 q11
    try simp [g4, q6, g9] at r18
    refine zAA r18 (by simp) rfl ?_
    simp [g4, q6, g9]
    have r19 := ref01_Find_ok fuel v10 s1 v12 q13
    try simp [g4, q6, g9] at r19
    refine zAA r19 (by simp) rfl ?_
    simp [g4, q6, g9]
   obtain rfl := oi q15
   refine st ?_
   simp [g4, q6, g9]
   have r20 := zEy fuel s1 v2 q3
   try simp [g4, q6, g9] at r20
   refine zAA r20 (by simp) rfl ?_
   simp [g4, q6, g9]
   have r21 := zDN c5 v7 q8
   try simp [g4, q6, g9] at r21
   refine zAA r21 (by simp) rfl ?_
   simp [g4, q6, g9]
  obtain rfl := oi q15
  refine st ?_
  simp [g4]
  have r22 := zEy fuel s1 v2 q3
  try simp [g4] at r22
  refine zAA r22 (by simp) rfl ?_
  simp [g4]
 refine zAB ?_
 obtain rfl := oi h
 simp
theorem zA9 (fuel : Nat) (s1 : (List UInt8)) (r : Bool) (h : zB9 fuel s1 = some r) : Pure Tryz.prog 136 [.str s1] (.bool r) := by
 rw [zB9] at h
 refine zAO Tryz.func136 (by rfl) (by rfl) (by simp) (by simp) (by simp) <| cutA 5 0 [(0, .str s1)] [] ?_
 obtain ⟨v2, q3, h⟩ := bs h
 refine cut 5 0 [(2, .bool v2)] [] ?_ ?_
 ·refine st ?_
  simp
  have r4 := zH1 fuel s1 v2 q3
  try simp at r4
  refine zAA r4 (by simp) rfl ?_
  simp
 refine zAB ?_
 obtain rfl := oi h
 simp
theorem zH0 (fuel : Nat) (s1 : (List UInt8)) (r : Bool) (h : zEw fuel s1 = some r) : Pure Tryz.prog 82 [.str s1] (.bool r) := by
 rw [zEw] at h
 refine zAO Tryz.func82 (by rfl) (by rfl) (by simp) (by simp) (by simp) <| cutA 10 0 [(0, .str s1)] [] ?_
 obtain ⟨b9, q10, h⟩ := bs h
 refine cut 10 0 [(2, .bool b9)] [] ?_ ?_
 ·obtain ⟨v2, q3, q10⟩ := bs q10
  rcases sp q10 with ⟨g4, q10⟩ | ⟨g4, q10⟩
  ·obtain ⟨c5, q6, q10⟩ := bs q10
   obtain ⟨v7, q8, q10⟩ := bs q10
   obtain rfl := oi q10
   refine st ?_
   simp [g4, q6]
   have r11 := zEy fuel s1 v2 q3
   try simp [g4, q6] at r11
   refine zAA r11 (by simp) rfl ?_
   simp [g4, q6]
   have r12 := zEb c5 v7 q8
   try simp [g4, q6] at r12
   refine zAA r12 (by simp) rfl ?_
   simp [g4, q6]
  obtain rfl := oi q10
  refine st ?_
  simp [g4]
  have r13 := zEy fuel s1 v2 q3
  try simp [g4] at r13
  refine zAA r13 (by simp) rfl ?_
  simp [g4]
 refine zAB ?_
 obtain rfl := oi h
 simp
theorem zA1 (fuel : Nat) (s1 : (List UInt8)) (r : Bool) (h : zBp fuel s1 = some r) : Pure Tryz.prog 53 [.str s1] (.bool r) := by
 rw [zBp] at h
 refine zAO Tryz.func53 (by rfl) (by rfl) (by simp) (by simp) (by simp) <| cutA 5 0 [(0, .str s1)] [] ?_
 obtain ⟨v2, q3, h⟩ := bs h
 refine cut 5 0 [(2, .bool v2)] [] ?_ ?_
 ·refine st ?_
  simp
  have r4 := zH0 fuel s1 v2 q3
  try simp at r4
  refine zAA r4 (by simp) rfl ?_
  simp
 refine zAB ?_
 obtain rfl := oi h
 simp
theorem zAx (fuel : Nat) (l1 : (List (List UInt8))) (low2 : Bool) (r : Bool) (h : zCF fuel l1 low2 = some r) : Pure Tryz.prog 133 [.sl (l1.map cS), .bool low2] (.bool r) := by
 rw [zCF] at h
 refine zAO Tryz.func133 (by rfl) (by rfl) (by simp) (by simp) (by simp) <| cutA 40 0 [(0, .sl (l1.map cS)), (1, .bool low2)] [] <| zAM <| cut 40 0 [(0, .sl (l1.map cS)), (1, .bool low2), (13, .bool ((ltI (l1.length : Int) 1) || (ltI 8 (l1.length : Int))))] [] ?_ ?_
 ·rcases tf (ltI (l1.length : Int) 1) with g3 | g3
  ·have c4 := ltT g3
   refine zD3 0 rfl fun f5 => ?_
   rw [List.length_map] at f5
   refine st ?_
   simp [g3]
  have c6 := ltF g3
  refine zD3 0 rfl fun f7 => ?_
  rw [List.length_map] at f7
  refine st ?_
  simp [g3]
 rcases sp h with ⟨g8, h⟩ | ⟨g8, h⟩
 ·refine zBE rfl g8 <| cutA 40 0 [(4, .bool false)] [] <| zAB <| zAE ?_
  obtain rfl := oi h
  simp
 obtain ⟨g9, g10⟩ := orF g8
 have c11 := ltF g9
 have c13 := ltF g10
 refine zGH rfl g8 <| zD3 0 rfl fun f12 => ?_
 rw [List.length_map] at f12
 refine zAF <| zAP <| zAM <| cutA 40 0 [(0, .sl (l1.map cS)), (1, .bool low2), (5, .int .i64 0)] [] <| zAU ?_
 obtain ⟨o16, l17, h⟩ := bs h
 refine zB2 (fun p : Nat × Nat => mkS 40 0 [(0, .sl (l1.map cS)), (1, .bool low2), (5, .int .i64 p.2)] []) (fun p => zCl fuel l1 low2 p.1 p.2 = some o16) (fun p => p.1) (fuel, 0) l17 (zBS (by simp)) ?_
 rintro ⟨k18, i14⟩ l17
 dsimp only at l17 ⊢
 cases k18 with
 | zero =>
  rw [zCl] at l17; cases l17
 | succ k19 =>
  rw [zCl] at l17
  refine zAM <| cutA 40 0 [(0, .sl (l1.map cS)), (1, .bool low2), (5, .int .i64 i14), (17, .bool (ltI ((i14 : Nat) : Int) (l1.length : Int)))] [] <| spc l17 rfl (fun g20 l17 => ?_) fun g20 l17 => ?_
  ·have c21 := ltT g20
   refine zAF <| zAP <| zAM <| zAU <| cut 40 0 [(0, .sl (l1.map cS)), (1, .bool low2), (5, .int .i64 i14), (27, .bool (low2 && (eqI ((i14 : Nat) : Int) ((l1.length : Int) - 1))))] [] ?_ ?_
   ·rcases tf (low2) with g22 | g22
    ·have q23 : Rng .i64 ((l1.length : Int) - 1) := by simp only [Rng, inR]; omega
     try simp at q23
     refine st ?_
     simp [g22, q23]
    refine st ?_
    simp [g22]
   rcases sp l17 with ⟨g24, l17⟩ | ⟨g24, l17⟩
   ·obtain ⟨g25, g26⟩ := andT g24
    have c27 := eqT g26
    refine zBE rfl g24 ?_
    obtain ⟨x28, q29, l17⟩ := bs l17
    obtain ⟨v30, q31, l17⟩ := bs l17
    refine cut 40 0 [(0, .sl (l1.map cS)), (1, .bool low2), (5, .int .i64 i14), (33, .bool (!v30))] [] ?_ ?_
    ·refine st ?_
     simp [q29]
     have r36 := zA9 fuel x28 v30 q31
     try simp [q29] at r36
     refine zAA r36 (by simp) rfl ?_
     simp [q29]
    refine spc l17 rfl (fun g32 l17 => ?_) fun g32 l17 => ?_
    ·have g33 := notT g32
     refine cutA 40 0 [(4, .bool false)] [] <| zAB <| zAJ <| zAE ?_
     replace h := retL l17 h
     refine zAE <| zAJ <| zAE ?_
     obtain rfl := oi h
     simp
    have g34 := notF g32
    refine zAF <| zCx <| zAP ?_
    have q35 : Rng .i64 (((i14 : Nat) : Int) + 1) := by simp only [Rng, inR]; omega
    try simp at q35
    refine last 40 0 [(0, .sl (l1.map cS)), (1, .bool low2), (5, .int .i64 ((i14 + 1 : Nat) : Int))] [] (st (by simp [q35])) fun zz hs => ?_
    exact ⟨(k19, i14 + 1), hs, l17, by simp⟩
   refine zGH rfl g24 ?_
   obtain ⟨x37, q38, l17⟩ := bs l17
   obtain ⟨v39, q40, l17⟩ := bs l17
   refine cut 40 0 [(0, .sl (l1.map cS)), (1, .bool low2), (5, .int .i64 i14), (39, .bool (!v39))] [] ?_ ?_
   ·refine st ?_
    simp [q38]
    have r45 := zA1 fuel x37 v39 q40
    try simp [q38] at r45
    refine zAA r45 (by simp) rfl ?_
    simp [q38]
   refine spc l17 rfl (fun g41 l17 => ?_) fun g41 l17 => ?_
   ·have g42 := notT g41
    refine cutA 40 0 [(4, .bool false)] [] <| zAB <| zAJ <| zAE ?_
    replace h := retL l17 h
    refine zAE <| zAJ <| zAE ?_
    obtain rfl := oi h
    simp
   have g43 := notF g41
   refine zAF <| zCx <| zAP ?_
   have q44 : Rng .i64 (((i14 : Nat) : Int) + 1) := by simp only [Rng, inR]; omega
   try simp at q44
   refine last 40 0 [(0, .sl (l1.map cS)), (1, .bool low2), (5, .int .i64 ((i14 + 1 : Nat) : Int))] [] (st (by simp [q44])) fun zz hs => ?_
   exact ⟨(k19, i14 + 1), hs, l17, by simp⟩
  have c46 := ltF g20
  refine zBR <| zAc ?_
  rcases o16 with o16 | o15
  ·cases l17
  have q47 := Sum.inr.inj (Option.some.inj l17)
  replace h := zFp h
  refine zAc <| zBQ <| zBT (t := mkS 40 0 [] []) ?_ (zBS (by simp))
  refine cutA 40 0 [(4, .bool true)] [] <| zAB ?_
  obtain rfl := oi h
  simp
theorem zCE (fuel : Nat) (t1 : zJC) (from2 : Int) (to3 : Int) (cat4 : Int) (r : Bool) (h : zB3 fuel t1 from2 to3 cat4 = some r) : Pure Tryz.prog 134 [.agg t1.d, .int .i64 from2, .int .i64 to3, .int .i64 cat4] (.bool r) := by
 rw [zB3] at h
 refine zAO Tryz.func134 (by rfl) (by rfl) (by simp) (by simp) (by simp) <| cutA 25 0 [(1, .int .i64 from2), (2, .int .i64 to3), (3, .int .i64 cat4), (4, .mptr 0 0)] [t1.d] <| zAM <| cutA 25 0 [(2, .int .i64 to3), (3, .int .i64 cat4), (4, .mptr 0 0), (9, .int .i64 from2)] [t1.d] <| zAU ?_
 obtain ⟨o7, l8, h⟩ := bs h
 refine zB2 (fun p : Nat × Int => mkS 25 0 [(2, .int .i64 to3), (3, .int .i64 cat4), (4, .mptr 0 0), (9, .int .i64 p.2)] [t1.d]) (fun p => zCV t1 to3 cat4 p.1 p.2 = some o7) (fun p => p.1) (fuel, from2) l8 (zBS (by simp)) ?_
 rintro ⟨k9, i5⟩ l8
 dsimp only at l8 ⊢
 cases k9 with
 | zero =>
  rw [zCV] at l8; cases l8
 | succ k10 =>
  rw [zCV] at l8
  refine zAM <| cutA 25 0 [(2, .int .i64 to3), (3, .int .i64 cat4), (4, .mptr 0 0), (9, .int .i64 i5), (13, .bool (ltI i5 to3))] [t1.d] <| spc l8 rfl (fun g11 l8 => ?_) fun g11 l8 => ?_
  ·have c12 := ltT g11
   refine zAF <| zAP <| zAM <| zAU ?_
   obtain ⟨x13, q14, l8⟩ := bs l8
   obtain ⟨q15, q16⟩ := idx_ok q14
   obtain ⟨v17, q18, l8⟩ := bs l8
   refine cut 25 0 [(2, .int .i64 to3), (3, .int .i64 cat4), (4, .mptr 0 0), (9, .int .i64 i5), (24, .bool (!v17))] [t1.d] ?_ ?_
   ·refine st ?_
    simp [q15, q16]
    have r27 := zEa x13.Op cat4 v17 q18
    try simp [q15, q16] at r27
    refine zAA r27 (by simp) rfl ?_
    simp [q15, q16]
   refine spc l8 rfl (fun g19 l8 => ?_) fun g19 l8 => ?_
   ·have g20 := notT g19
    refine cutA 25 0 [(8, .bool false)] [t1.d] <| zAB <| zAJ <| zAE ?_
    replace h := retL l8 h
    refine zAE <| zAJ <| zAE ?_
    obtain rfl := oi h
    simp
   have g21 := notF g19
   refine zAF <| zCx <| zAP ?_
   obtain ⟨n22, q23, l8⟩ := bs l8
   obtain ⟨q24, q25⟩ := zFi q23
   try simp at q24
   try simp at q25
   have c26 := q24; simp only [Rng, inR] at c26
   refine last 25 0 [(2, .int .i64 to3), (3, .int .i64 cat4), (4, .mptr 0 0), (9, .int .i64 n22)] [t1.d] (st (by simp [q24, q25])) fun zz hs => ?_
   exact ⟨(k10, n22), hs, l8, by simp⟩
  have c28 := ltF g11
  refine zBR <| zAc ?_
  rcases o7 with o7 | o6
  ·cases l8
  have q29 := Sum.inr.inj (Option.some.inj l8)
  replace h := zFp h
  refine zAc <| zBQ <| zBT (t := mkS 25 0 [] [t1.d]) ?_ (zBS (by simp))
  refine cutA 25 0 [(8, .bool true)] [t1.d] <| zAB ?_
  obtain rfl := oi h
  simp
theorem zAt (fuel : Nat) (t1 : zJC) (cats2 : (List Int)) (r : Bool) (h : zAp fuel t1 cats2 = some r) : Pure Tryz.prog 135 [.agg t1.d, .sl (cats2.map (cI .i64))] (.bool r) := by
 rw [zAp] at h
 refine zAO Tryz.func135 (by rfl) (by rfl) (by simp) (by simp) (by simp) <| cutA 53 0 [(1, .sl (cats2.map (cI .i64))), (2, .mptr 0 0)] [t1.d] <| zAM <| cutA 53 0 [(1, .sl (cats2.map (cI .i64))), (2, .mptr 0 0), (11, .bool (!(eqI (t1.L.length : Int) (cats2.length : Int))))] [t1.d] ?_
 rcases sp h with ⟨g3, h⟩ | ⟨g3, h⟩
 ·have g4 := notT g3
  have c5 := eqF g4
  refine zBE rfl g3 <| cutA 53 0 [(4, .bool false)] [t1.d] <| zAB <| zAE ?_
  obtain rfl := oi h
  simp
 have g6 := notF g3
 have c7 := eqT g6
 refine zGH rfl g3 <| zAF <| zAP <| zAM <| cutA 53 0 [(1, .sl (cats2.map (cI .i64))), (2, .mptr 0 0), (5, .int .i64 0)] [t1.d] <| zAU ?_
 obtain ⟨o10, l11, h⟩ := bs h
 refine zB2 (fun p : Nat × Nat => mkS 53 0 [(1, .sl (cats2.map (cI .i64))), (2, .mptr 0 0), (5, .int .i64 p.2)] [t1.d]) (fun p => zCs t1 cats2 p.1 p.2 = some o10) (fun p => p.1) (fuel, 0) l11 (zBS (by simp)) ?_
 rintro ⟨k12, i8⟩ l11
 dsimp only at l11 ⊢
 cases k12 with
 | zero =>
  rw [zCs] at l11; cases l11
 | succ k13 =>
  rw [zCs] at l11
  refine zAM <| cutA 53 0 [(1, .sl (cats2.map (cI .i64))), (2, .mptr 0 0), (5, .int .i64 i8), (15, .bool (ltI ((i8 : Nat) : Int) (cats2.length : Int)))] [t1.d] <| spc l11 rfl (fun g14 l11 => ?_) fun g14 l11 => ?_
  ·have c15 := ltT g14
   refine zD3 1 rfl fun f16 => ?_
   rw [List.length_map] at f16
   refine zAF <| zAP <| zAM <| zAU ?_
   obtain ⟨b33, q34, l11⟩ := bs l11
   refine cut 53 0 [(1, .sl (cats2.map (cI .i64))), (2, .mptr 0 0), (5, .int .i64 i8), (52, .bool b33)] [t1.d] ?_ ?_
   ·obtain ⟨x17, q18, q34⟩ := bs q34
    rcases sp q34 with ⟨g19, q34⟩ | ⟨g19, q34⟩
    ·have c20 := eqT g19
     obtain ⟨x21, q22, q34⟩ := bs q34
     rcases sp q34 with ⟨g23, q34⟩ | ⟨g23, q34⟩
     ·have g24 := notT g23
      have c25 := eqF g24
      obtain rfl := oi q34
      refine zAW [] mixed (n := 53) rfl (by decide) ?_
      simp [q18, g19, q22, g23]
     have g26 := notF g23
     have c27 := eqT g26
     obtain rfl := oi q34
     refine zAW [] mixed (n := 53) rfl (by decide) ?_
     simp [q18, g19, q22, g23]
    have c28 := eqF g19
    obtain ⟨x29, q30, q34⟩ := bs q34
    obtain ⟨v31, q32, q34⟩ := bs q34
    obtain rfl := oi q34
    refine zAW [] mixed (n := 53) rfl (by decide) ?_
    simp [q18, g19, q30]
    have r37 := zEa x29.Op x17 v31 q32
    try simp [q18, g19, q30] at r37
    refine zDT r37 (by simp) rfl ?_
    simp [q18, g19, q30]
   refine spc l11 rfl (fun g35 l11 => ?_) fun g35 l11 => ?_
   ·refine cutA 53 0 [(4, .bool false)] [t1.d] <| zAB <| zAJ <| zAE ?_
    replace h := retL l11 h
    refine zAE <| zAJ <| zAE ?_
    obtain rfl := oi h
    simp
   refine zAF <| zCx <| zAP ?_
   have q36 : Rng .i64 (((i8 : Nat) : Int) + 1) := by simp only [Rng, inR]; omega
   try simp at q36
   refine last 53 0 [(1, .sl (cats2.map (cI .i64))), (2, .mptr 0 0), (5, .int .i64 ((i8 + 1 : Nat) : Int))] [t1.d] (st (by simp [q36])) fun zz hs => ?_
   exact ⟨(k13, i8 + 1), hs, l11, by simp⟩
  have c38 := ltF g14
  refine zD3 1 rfl fun f39 => ?_
  rw [List.length_map] at f39
  refine zBR <| zAc ?_
  rcases o10 with o10 | o9
  ·cases l11
  have q40 := Sum.inr.inj (Option.some.inj l11)
  replace h := zFp h
  refine zAc <| zBQ <| zBT (t := mkS 53 0 [] [t1.d]) ?_ (zBS (by simp))
  refine cutA 53 0 [(4, .bool true)] [t1.d] <| zAB ?_
  obtain rfl := oi h
  simp
theorem zHX (fuel : Nat) (t1 : zJC) (r : Bool) (h : zCr fuel t1 = some r) : Pure Tryz.prog 119 [.agg t1.d] (.bool r) := by
 rw [zCr] at h
 refine zAO Tryz.func119 (by rfl) (by rfl) (by simp) (by simp) (by simp) <| cutA 79 0 [(1, .mptr 0 0)] [t1.d] <| cutA 79 0 [(1, .mptr 0 0), (3, .int .i64 t1.L.length)] [t1.d] <| zAM <| cutA 79 0 [(1, .mptr 0 0), (3, .int .i64 t1.L.length), (9, .bool (eqI t1.Op 1))] [t1.d] <| spc h rfl (fun g2 h => ?_) fun g2 h => ?_
 ·obtain ⟨b10, q11, h⟩ := bs h
  refine cut 79 0 [(2, .bool b10)] [t1.d] ?_ ?_
  ·obtain ⟨v4, q5, q11⟩ := bs q11
   rcases sp q11 with ⟨g6, q11⟩ | ⟨g6, q11⟩
   ·obtain ⟨v7, q8, q11⟩ := bs q11
    rcases sp q11 with ⟨g9, q11⟩ | ⟨g9, q11⟩
    ·obtain rfl := oi q11
     refine st ?_
     simp [g6, g9]
     have r12 := zAG t1 false true false v4 q5
     try simp [g6, g9] at r12
     refine zAA r12 (by simp) rfl ?_
     simp [g6, g9]
     have r13 := zE8 fuel t1.S v7 q8
     try simp [g6, g9] at r13
     refine zAA r13 (by simp) rfl ?_
     simp [g6, g9]
    obtain rfl := oi q11
    refine st ?_
    simp [g6, g9]
    have r14 := zAG t1 false true false v4 q5
    try simp [g6, g9] at r14
    refine zAA r14 (by simp) rfl ?_
    simp [g6, g9]
    have r15 := zE8 fuel t1.S v7 q8
    try simp [g6, g9] at r15
    refine zAA r15 (by simp) rfl ?_
    simp [g6, g9]
   obtain rfl := oi q11
   refine st ?_
   simp [g6]
   have r16 := zAG t1 false true false v4 q5
   try simp [g6] at r16
   refine zAA r16 (by simp) rfl ?_
   simp [g6]
  refine zAB <| zAE ?_
  obtain rfl := oi h
  simp
 refine zAF <| zAP <| zAM <| cutA 79 0 [(1, .mptr 0 0), (3, .int .i64 t1.L.length), (23, .bool (eqI t1.Op 2))] [t1.d] <| spc h rfl (fun g18 h => ?_) fun g18 h => ?_
 ·obtain ⟨b33, q34, h⟩ := bs h
  refine cut 79 0 [(2, .bool b33)] [t1.d] ?_ ?_
  ·obtain ⟨v20, q21, q34⟩ := bs q34
   rcases sp q34 with ⟨g22, q34⟩ | ⟨g22, q34⟩
   ·obtain ⟨v23, q24, q34⟩ := bs q34
    rcases sp q34 with ⟨g25, q34⟩ | ⟨g25, q34⟩
    ·rcases sp q34 with ⟨g26, q34⟩ | ⟨g26, q34⟩
     ·have c27 := leT g26
      refine zCJ 0 4 rfl rfl rfl fun f28 => ?_
      rw [List.length_map] at f28
      obtain ⟨v29, q30, q34⟩ := bs q34
      obtain rfl := oi q34
      refine st ?_
      simp [g22, g25, g26]
      have r35 := zAG t1 false false true v20 q21
      try simp [g22, g25, g26] at r35
      refine zAA r35 (by simp) rfl ?_
      simp [g22, g25, g26]
      have r36 := zAx fuel t1.Names true v23 q24
      try simp [g22, g25, g26] at r36
      refine zAA r36 (by simp) rfl ?_
      simp [g22, g25, g26]
      have r37 := zCE fuel t1 0 (t1.L.length : Int) 1 v29 q30
      try simp [g22, g25, g26] at r37
      refine zAA r37 (by simp) rfl ?_
      simp [g22, g25, g26]
     have c31 := leF g26
     refine zCJ 0 4 rfl rfl rfl fun f32 => ?_
     rw [List.length_map] at f32
     obtain rfl := oi q34
     refine st ?_
     simp [g22, g25, g26]
     have r38 := zAG t1 false false true v20 q21
     try simp [g22, g25, g26] at r38
     refine zAA r38 (by simp) rfl ?_
     simp [g22, g25, g26]
     have r39 := zAx fuel t1.Names true v23 q24
     try simp [g22, g25, g26] at r39
     refine zAA r39 (by simp) rfl ?_
     simp [g22, g25, g26]
    obtain rfl := oi q34
    refine st ?_
    simp [g22, g25]
    have r40 := zAG t1 false false true v20 q21
    try simp [g22, g25] at r40
    refine zAA r40 (by simp) rfl ?_
    simp [g22, g25]
    have r41 := zAx fuel t1.Names true v23 q24
    try simp [g22, g25] at r41
    refine zAA r41 (by simp) rfl ?_
    simp [g22, g25]
   obtain rfl := oi q34
   refine st ?_
   simp [g22]
   have r42 := zAG t1 false false true v20 q21
   try simp [g22] at r42
   refine zAA r42 (by simp) rfl ?_
   simp [g22]
  refine zAB <| zAE ?_
  obtain rfl := oi h
  simp
 refine zAF <| zAP <| zAM <| cutA 79 0 [(1, .mptr 0 0), (3, .int .i64 t1.L.length), (42, .bool (eqI t1.Op 3))] [t1.d] <| spc h rfl (fun g44 h => ?_) fun g44 h => ?_
 ·obtain ⟨b55, q56, h⟩ := bs h
  refine cut 79 0 [(2, .bool b55)] [t1.d] ?_ ?_
  ·obtain ⟨v46, q47, q56⟩ := bs q56
   rcases sp q56 with ⟨g48, q56⟩ | ⟨g48, q56⟩
   ·obtain ⟨l49, q50, q56⟩ := bs q56
    obtain ⟨q51, q52⟩ := zD6 q50
    obtain ⟨v53, q54, q56⟩ := bs q56
    obtain rfl := oi q56
    refine st ?_
    simp [g48, q51, q52]
    have r57 := zAG t1 false false false v46 q47
    try simp [g48, q51, q52] at r57
    refine zAA r57 (by simp) rfl ?_
    simp [g48, q51, q52]
    have r58 := zAt fuel t1 l49 v53 q54
    try simp [g48, q51, q52] at r58
    refine zAA r58 (by simp) rfl ?_
    simp [g48, q51, q52]
   obtain rfl := oi q56
   refine st ?_
   simp [g48]
   have r59 := zAG t1 false false false v46 q47
   try simp [g48] at r59
   refine zAA r59 (by simp) rfl ?_
   simp [g48]
  refine zAB <| zAE ?_
  obtain rfl := oi h
  simp
 refine zAF <| zAP <| zAM <| cutA 79 0 [(1, .mptr 0 0), (3, .int .i64 t1.L.length), (52, .bool (eqI t1.Op 4))] [t1.d] <| spc h rfl (fun g61 h => ?_) fun g61 h => ?_
 ·obtain ⟨b76, q77, h⟩ := bs h
  refine cut 79 0 [(2, .bool b76)] [t1.d] ?_ ?_
  ·obtain ⟨v63, q64, q77⟩ := bs q77
   rcases sp q77 with ⟨g65, q77⟩ | ⟨g65, q77⟩
   ·rcases sp q77 with ⟨g66, q77⟩ | ⟨g66, q77⟩
    ·have c67 := leT g66
     refine zCJ 0 4 rfl rfl rfl fun f68 => ?_
     rw [List.length_map] at f68
     rcases sp q77 with ⟨g69, q77⟩ | ⟨g69, q77⟩
     ·have c70 := leT g69
      obtain ⟨v71, q72, q77⟩ := bs q77
      obtain rfl := oi q77
      refine st ?_
      simp [g65, g66, g69]
      have r78 := zAG t1 false false false v63 q64
      try simp [g65, g66, g69] at r78
      refine zAA r78 (by simp) rfl ?_
      simp [g65, g66, g69]
      have r79 := zCE fuel t1 0 (t1.L.length : Int) 1 v71 q72
      try simp [g65, g66, g69] at r79
      refine zAA r79 (by simp) rfl ?_
      simp [g65, g66, g69]
     have c73 := leF g69
     obtain rfl := oi q77
     refine st ?_
     simp [g65, g66, g69]
     have r80 := zAG t1 false false false v63 q64
     try simp [g65, g66, g69] at r80
     refine zAA r80 (by simp) rfl ?_
     simp [g65, g66, g69]
    have c74 := leF g66
    refine zCJ 0 4 rfl rfl rfl fun f75 => ?_
    rw [List.length_map] at f75
    obtain rfl := oi q77
    refine st ?_
    simp [g65, g66]
    have r81 := zAG t1 false false false v63 q64
    try simp [g65, g66] at r81
    refine zAA r81 (by simp) rfl ?_
    simp [g65, g66]
   obtain rfl := oi q77
   refine st ?_
   simp [g65]
   have r82 := zAG t1 false false false v63 q64
   try simp [g65] at r82
   refine zAA r82 (by simp) rfl ?_
   simp [g65]
  refine zAB <| zAE ?_
  obtain rfl := oi h
  simp
 refine zAF <| zAP ?_
 obtain ⟨b90, q91, h⟩ := bs h
 refine cut 79 0 [(2, .bool b90)] [t1.d] ?_ ?_
 ·obtain ⟨v84, q85, q91⟩ := bs q91
  rcases sp q91 with ⟨g86, q91⟩ | ⟨g86, q91⟩
  ·obtain ⟨v87, q88, q91⟩ := bs q91
   rcases sp q91 with ⟨g89, q91⟩ | ⟨g89, q91⟩
   ·obtain rfl := oi q91
    refine st ?_
    simp [g86, g89]
    have r92 := zAG t1 false false true v84 q85
    try simp [g86, g89] at r92
    refine zAA r92 (by simp) rfl ?_
    simp [g86, g89]
    have r93 := zAx fuel t1.Names false v87 q88
    try simp [g86, g89] at r93
    refine zAA r93 (by simp) rfl ?_
    simp [g86, g89]
   obtain rfl := oi q91
   refine st ?_
   simp [g86, g89]
   have r94 := zAG t1 false false true v84 q85
   try simp [g86, g89] at r94
   refine zAA r94 (by simp) rfl ?_
   simp [g86, g89]
   have r95 := zAx fuel t1.Names false v87 q88
   try simp [g86, g89] at r95
   refine zAA r95 (by simp) rfl ?_
   simp [g86, g89]
  obtain rfl := oi q91
  refine st ?_
  simp [g86]
  have r96 := zAG t1 false false true v84 q85
  try simp [g86] at r96
  refine zAA r96 (by simp) rfl ?_
  simp [g86]
 refine zAB ?_
 obtain rfl := oi h
 simp
theorem zHy (fuel : Nat) (t1 : zJC) (r : Bool) (h : zC8 fuel t1 = some r) : Pure Tryz.prog 120 [.agg t1.d] (.bool r) := by
 rw [zC8] at h
 refine zAO Tryz.func120 (by rfl) (by rfl) (by simp) (by simp) (by simp) <| cutA 83 0 [(1, .mptr 0 0)] [t1.d] <| cutA 83 0 [(1, .mptr 0 0), (3, .int .i64 t1.L.length)] [t1.d] <| zAM <| cutA 83 0 [(1, .mptr 0 0), (3, .int .i64 t1.L.length), (9, .bool (eqI t1.Op 11))] [t1.d] <| spc h rfl (fun g2 h => ?_) fun g2 h => ?_
 ·obtain ⟨b7, q8, h⟩ := bs h
  refine cut 83 0 [(2, .bool b7)] [t1.d] ?_ ?_
  ·obtain ⟨v4, q5, q8⟩ := bs q8
   rcases sp q8 with ⟨g6, q8⟩ | ⟨g6, q8⟩
   ·obtain rfl := oi q8
    refine st ?_
    simp [g6]
    have r9 := zAG t1 false false false v4 q5
    try simp [g6] at r9
    refine zAA r9 (by simp) rfl ?_
    simp [g6]
   obtain rfl := oi q8
   refine st ?_
   simp [g6]
   have r10 := zAG t1 false false false v4 q5
   try simp [g6] at r10
   refine zAA r10 (by simp) rfl ?_
   simp [g6]
  refine zAB <| zAE ?_
  obtain rfl := oi h
  simp
 refine zAF <| zAP <| zAM <| cutA 83 0 [(1, .mptr 0 0), (3, .int .i64 t1.L.length), (18, .bool (eqI t1.Op 12))] [t1.d] <| spc h rfl (fun g12 h => ?_) fun g12 h => ?_
 ·obtain ⟨b20, q21, h⟩ := bs h
  refine cut 83 0 [(2, .bool b20)] [t1.d] ?_ ?_
  ·obtain ⟨v14, q15, q21⟩ := bs q21
   rcases sp q21 with ⟨g16, q21⟩ | ⟨g16, q21⟩
   ·obtain ⟨v17, q18, q21⟩ := bs q21
    rcases sp q21 with ⟨g19, q21⟩ | ⟨g19, q21⟩
    ·obtain rfl := oi q21
     refine st ?_
     simp [g16, g19]
     have r22 := zAG t1 false true false v14 q15
     try simp [g16, g19] at r22
     refine zAA r22 (by simp) rfl ?_
     simp [g16, g19]
     have r23 := zA9 fuel t1.S v17 q18
     try simp [g16, g19] at r23
     refine zAA r23 (by simp) rfl ?_
     simp [g16, g19]
    obtain rfl := oi q21
    refine st ?_
    simp [g16, g19]
    have r24 := zAG t1 false true false v14 q15
    try simp [g16, g19] at r24
    refine zAA r24 (by simp) rfl ?_
    simp [g16, g19]
    have r25 := zA9 fuel t1.S v17 q18
    try simp [g16, g19] at r25
    refine zAA r25 (by simp) rfl ?_
    simp [g16, g19]
   obtain rfl := oi q21
   refine st ?_
   simp [g16]
   have r26 := zAG t1 false true false v14 q15
   try simp [g16] at r26
   refine zAA r26 (by simp) rfl ?_
   simp [g16]
  refine zAB <| zAE ?_
  obtain rfl := oi h
  simp
 refine zAF <| zAP <| zAM <| cutA 83 0 [(1, .mptr 0 0), (3, .int .i64 t1.L.length), (32, .bool (eqI t1.Op 13))] [t1.d] <| spc h rfl (fun g28 h => ?_) fun g28 h => ?_
 ·obtain ⟨b39, q40, h⟩ := bs h
  refine cut 83 0 [(2, .bool b39)] [t1.d] ?_ ?_
  ·obtain ⟨v30, q31, q40⟩ := bs q40
   rcases sp q40 with ⟨g32, q40⟩ | ⟨g32, q40⟩
   ·rcases sp q40 with ⟨g33, q40⟩ | ⟨g33, q40⟩
    ·have c34 := leT g33
     rcases sp q40 with ⟨g35, q40⟩ | ⟨g35, q40⟩
     ·have c36 := leT g35
      obtain rfl := oi q40
      refine st ?_
      simp [g32, g33, g35]
      have r41 := zAG t1 true false false v30 q31
      try simp [g32, g33, g35] at r41
      refine zAA r41 (by simp) rfl ?_
      simp [g32, g33, g35]
     have c37 := leF g35
     obtain rfl := oi q40
     refine st ?_
     simp [g32, g33, g35]
     have r42 := zAG t1 true false false v30 q31
     try simp [g32, g33, g35] at r42
     refine zAA r42 (by simp) rfl ?_
     simp [g32, g33, g35]
    have c38 := leF g33
    obtain rfl := oi q40
    refine st ?_
    simp [g32, g33]
    have r43 := zAG t1 true false false v30 q31
    try simp [g32, g33] at r43
    refine zAA r43 (by simp) rfl ?_
    simp [g32, g33]
   obtain rfl := oi q40
   refine st ?_
   simp [g32]
   have r44 := zAG t1 true false false v30 q31
   try simp [g32] at r44
   refine zAA r44 (by simp) rfl ?_
   simp [g32]
  refine zAB <| zAE ?_
  obtain rfl := oi h
  simp
 refine zAF <| zAP <| zAM <| cutA 83 0 [(1, .mptr 0 0), (3, .int .i64 t1.L.length), (51, .bool (eqI t1.Op 14))] [t1.d] <| spc h rfl (fun g46 h => ?_) fun g46 h => ?_
 ·obtain ⟨b61, q62, h⟩ := bs h
  refine cut 83 0 [(2, .bool b61)] [t1.d] ?_ ?_
  ·obtain ⟨v48, q49, q62⟩ := bs q62
   rcases sp q62 with ⟨g50, q62⟩ | ⟨g50, q62⟩
   ·obtain ⟨v51, q52, q62⟩ := bs q62
    rcases sp q62 with ⟨g53, q62⟩ | ⟨g53, q62⟩
    ·rcases sp q62 with ⟨g54, q62⟩ | ⟨g54, q62⟩
     ·have c55 := leT g54
      refine zCJ 0 4 rfl rfl rfl fun f56 => ?_
      rw [List.length_map] at f56
      obtain ⟨v57, q58, q62⟩ := bs q62
      obtain rfl := oi q62
      refine st ?_
      simp [g50, g53, g54]
      have r63 := zAG t1 false false true v48 q49
      try simp [g50, g53, g54] at r63
      refine zAA r63 (by simp) rfl ?_
      simp [g50, g53, g54]
      have r64 := zAx fuel t1.Names false v51 q52
      try simp [g50, g53, g54] at r64
      refine zAA r64 (by simp) rfl ?_
      simp [g50, g53, g54]
      have r65 := zCE fuel t1 0 (t1.L.length : Int) 2 v57 q58
      try simp [g50, g53, g54] at r65
      refine zAA r65 (by simp) rfl ?_
      simp [g50, g53, g54]
     have c59 := leF g54
     refine zCJ 0 4 rfl rfl rfl fun f60 => ?_
     rw [List.length_map] at f60
     obtain rfl := oi q62
     refine st ?_
     simp [g50, g53, g54]
     have r66 := zAG t1 false false true v48 q49
     try simp [g50, g53, g54] at r66
     refine zAA r66 (by simp) rfl ?_
     simp [g50, g53, g54]
     have r67 := zAx fuel t1.Names false v51 q52
     try simp [g50, g53, g54] at r67
     refine zAA r67 (by simp) rfl ?_
     simp [g50, g53, g54]
    obtain rfl := oi q62
    refine st ?_
    simp [g50, g53]
    have r68 := zAG t1 false false true v48 q49
    try simp [g50, g53] at r68
    refine zAA r68 (by simp) rfl ?_
    simp [g50, g53]
    have r69 := zAx fuel t1.Names false v51 q52
    try simp [g50, g53] at r69
    refine zAA r69 (by simp) rfl ?_
    simp [g50, g53]
   obtain rfl := oi q62
   refine st ?_
   simp [g50]
   have r70 := zAG t1 false false true v48 q49
   try simp [g50] at r70
   refine zAA r70 (by simp) rfl ?_
   simp [g50]
  refine zAB <| zAE ?_
  obtain rfl := oi h
  simp
 refine zAF <| zAP ?_
 obtain ⟨b87, q88, h⟩ := bs h
 refine cut 83 0 [(2, .bool b87)] [t1.d] ?_ ?_
 ·obtain ⟨v72, q73, q88⟩ := bs q88
  rcases sp q88 with ⟨g74, q88⟩ | ⟨g74, q88⟩
  ·rcases sp q88 with ⟨g75, q88⟩ | ⟨g75, q88⟩
   ·have g76 := notT g75
    have c77 := eqF g76
    rcases sp q88 with ⟨g78, q88⟩ | ⟨g78, q88⟩
    ·have c79 := leT g78
     refine zCJ 0 4 rfl rfl rfl fun f80 => ?_
     rw [List.length_map] at f80
     obtain ⟨v81, q82, q88⟩ := bs q88
     obtain rfl := oi q88
     refine st ?_
     simp [g74, g75, g78]
     have r89 := zAG t1 false false false v72 q73
     try simp [g74, g75, g78] at r89
     refine zAA r89 (by simp) rfl ?_
     simp [g74, g75, g78]
     have r90 := zCE fuel t1 0 (t1.L.length : Int) 2 v81 q82
     try simp [g74, g75, g78] at r90
     refine zAA r90 (by simp) rfl ?_
     simp [g74, g75, g78]
    have c83 := leF g78
    refine zCJ 0 4 rfl rfl rfl fun f84 => ?_
    rw [List.length_map] at f84
    obtain rfl := oi q88
    refine st ?_
    simp [g74, g75, g78]
    have r91 := zAG t1 false false false v72 q73
    try simp [g74, g75, g78] at r91
    refine zAA r91 (by simp) rfl ?_
    simp [g74, g75, g78]
   have g85 := notF g75
   have c86 := eqT g85
   obtain rfl := oi q88
   refine st ?_
   simp [g74, g75]
   have r92 := zAG t1 false false false v72 q73
   try simp [g74, g75] at r92
   refine zAA r92 (by simp) rfl ?_
   simp [g74, g75]
  obtain rfl := oi q88
  refine st ?_
  simp [g74]
  have r93 := zAG t1 false false false v72 q73
  try simp [g74] at r93
  refine zAA r93 (by simp) rfl ?_
  simp [g74]
 refine zAB ?_
 obtain rfl := oi h
 simp
theorem zHS (fuel : Nat) (s1 : (List UInt8)) (r : Bool) (h : zEr fuel s1 = some r) : Pure Tryz.prog 137 [.str s1] (.bool r) := by
 rw [zEr] at h
 refine zAO Tryz.func137 (by rfl) (by rfl) (by simp) (by simp) (by simp) <| cutA 29 0 [(0, .str s1)] [] <| zAM <| cutA 29 0 [(0, .str s1), (3, .int .i64 0)] [] <| zAU ?_
 obtain ⟨o4, l5, h⟩ := bs h
 refine zB2 (fun p : Nat × Nat => mkS 29 0 [(0, .str s1), (3, .int .i64 p.2)] []) (fun p => zC7 s1 p.1 p.2 = some o4) (fun p => p.1) (fuel, 0) l5 (zBS (by simp)) ?_
 rintro ⟨k6, i2⟩ l5
 dsimp only at l5 ⊢
 cases k6 with
 | zero =>
  rw [zC7] at l5; cases l5
 | succ k7 =>
  rw [zC7] at l5
  refine zAM <| cutA 29 0 [(0, .str s1), (3, .int .i64 i2), (7, .bool (ltI ((i2 : Nat) : Int) (s1.length : Int)))] [] <| spc l5 rfl (fun g8 l5 => ?_) fun g8 l5 => ?_
  ·have c9 := ltT g8
   refine zGX 0 rfl fun f10 => ?_
   refine zAF <| zAP <| zAM <| zAU ?_
   obtain ⟨b21, q22, l5⟩ := bs l5
   refine cut 29 0 [(0, .str s1), (3, .int .i64 i2), (25, .bool b21)] [] ?_ ?_
   ·obtain ⟨c11, q12, q22⟩ := bs q22
    rcases sp q22 with ⟨g13, q22⟩ | ⟨g13, q22⟩
    ·have g14 := notT g13
     have c15 := eqF g14
     rcases sp q22 with ⟨g16, q22⟩ | ⟨g16, q22⟩
     ·have c17 := ltT g16
      obtain rfl := oi q22
      refine st ?_
      simp [q12, g13, g16]
     have c18 := ltF g16
     obtain rfl := oi q22
     refine st ?_
     simp [q12, g13, g16]
    have g19 := notF g13
    have c20 := eqT g19
    obtain rfl := oi q22
    refine st ?_
    simp [q12, g13]
   refine spc l5 rfl (fun g23 l5 => ?_) fun g23 l5 => ?_
   ·refine cutA 29 0 [(2, .bool false)] [] <| zAB <| zAJ <| zAE ?_
    replace h := retL l5 h
    refine zAE <| zAJ <| zAE ?_
    obtain rfl := oi h
    simp
   refine zAF <| zCx <| zAP ?_
   have q24 : Rng .i64 (((i2 : Nat) : Int) + 1) := by simp only [Rng, inR]; omega
   try simp at q24
   refine last 29 0 [(0, .str s1), (3, .int .i64 ((i2 + 1 : Nat) : Int))] [] (st (by simp [q24])) fun zz hs => ?_
   exact ⟨(k7, i2 + 1), hs, l5, by simp⟩
  have c25 := ltF g8
  refine zGX 0 rfl fun f26 => ?_
  refine zBR <| zAc ?_
  rcases o4 with o4 | o3
  ·cases l5
  have q27 := Sum.inr.inj (Option.some.inj l5)
  replace h := zFp h
  refine zAc <| zBQ <| zBT (t := mkS 29 0 [(0, .str s1)] []) ?_ (zBS (by simp))
  refine cutA 29 0 [(2, .bool (leI (s1.length : Int) 16384))] [] <| zAB ?_
  obtain rfl := oi h
  simp
theorem zHZ (fuel : Nat) (t1 : zJC) (r : Bool) (h : zBH fuel t1 = some r) : Pure Tryz.prog 121 [.agg t1.d] (.bool r) := by
 rw [zBH] at h
 refine zAO Tryz.func121 (by rfl) (by rfl) (by simp) (by simp) (by simp) <| cutA 266 0 [(1, .mptr 0 0)] [t1.d] <| cutA 266 0 [(1, .mptr 0 0), (3, .int .i64 t1.L.length)] [t1.d] <| zAM <| cutA 266 0 [(1, .mptr 0 0), (3, .int .i64 t1.L.length), (11, .bool (eqI t1.Op 21))] [t1.d] <| spc h rfl (fun g2 h => ?_) fun g2 h => ?_
 ·obtain ⟨b13, q14, h⟩ := bs h
  refine cut 266 0 [(2, .bool b13)] [t1.d] ?_ ?_
  ·obtain ⟨v4, q5, q14⟩ := bs q14
   rcases sp q14 with ⟨g6, q14⟩ | ⟨g6, q14⟩
   ·rcases sp q14 with ⟨g7, q14⟩ | ⟨g7, q14⟩
    ·have c8 := leT g7
     rcases sp q14 with ⟨g9, q14⟩ | ⟨g9, q14⟩
     ·have c10 := leT g9
      obtain rfl := oi q14
      refine st ?_
      simp [g6, g7, g9]
      have r15 := zAG t1 true false false v4 q5
      try simp [g6, g7, g9] at r15
      refine zAA r15 (by simp) rfl ?_
      simp [g6, g7, g9]
     have c11 := leF g9
     obtain rfl := oi q14
     refine st ?_
     simp [g6, g7, g9]
     have r16 := zAG t1 true false false v4 q5
     try simp [g6, g7, g9] at r16
     refine zAA r16 (by simp) rfl ?_
     simp [g6, g7, g9]
    have c12 := leF g7
    obtain rfl := oi q14
    refine st ?_
    simp [g6, g7]
    have r17 := zAG t1 true false false v4 q5
    try simp [g6, g7] at r17
    refine zAA r17 (by simp) rfl ?_
    simp [g6, g7]
   obtain rfl := oi q14
   refine st ?_
   simp [g6]
   have r18 := zAG t1 true false false v4 q5
   try simp [g6] at r18
   refine zAA r18 (by simp) rfl ?_
   simp [g6]
  refine zAB <| zAE ?_
  obtain rfl := oi h
  simp
 refine zAF <| zAP <| zAM <| cutA 266 0 [(1, .mptr 0 0), (3, .int .i64 t1.L.length), (30, .bool (eqI t1.Op 22))] [t1.d] <| spc h rfl (fun g20 h => ?_) fun g20 h => ?_
 ·obtain ⟨b28, q29, h⟩ := bs h
  refine cut 266 0 [(2, .bool b28)] [t1.d] ?_ ?_
  ·obtain ⟨v22, q23, q29⟩ := bs q29
   rcases sp q29 with ⟨g24, q29⟩ | ⟨g24, q29⟩
   ·obtain ⟨v25, q26, q29⟩ := bs q29
    rcases sp q29 with ⟨g27, q29⟩ | ⟨g27, q29⟩
    ·obtain rfl := oi q29
     refine st ?_
     simp [g24, g27]
     have r30 := zAG t1 false true false v22 q23
     try simp [g24, g27] at r30
     refine zAA r30 (by simp) rfl ?_
     simp [g24, g27]
     have r31 := zHS fuel t1.S v25 q26
     try simp [g24, g27] at r31
     refine zAA r31 (by simp) rfl ?_
     simp [g24, g27]
    obtain rfl := oi q29
    refine st ?_
    simp [g24, g27]
    have r32 := zAG t1 false true false v22 q23
    try simp [g24, g27] at r32
    refine zAA r32 (by simp) rfl ?_
    simp [g24, g27]
    have r33 := zHS fuel t1.S v25 q26
    try simp [g24, g27] at r33
    refine zAA r33 (by simp) rfl ?_
    simp [g24, g27]
   obtain rfl := oi q29
   refine st ?_
   simp [g24]
   have r34 := zAG t1 false true false v22 q23
   try simp [g24] at r34
   refine zAA r34 (by simp) rfl ?_
   simp [g24]
  refine zAB <| zAE ?_
  obtain rfl := oi h
  simp
 refine zAF <| zAP <| zAM <| cutA 266 0 [(1, .mptr 0 0), (3, .int .i64 t1.L.length), (44, .bool (eqI t1.Op 23))] [t1.d] <| spc h rfl (fun g36 h => ?_) fun g36 h => ?_
 ·obtain ⟨b44, q45, h⟩ := bs h
  refine cut 266 0 [(2, .bool b44)] [t1.d] ?_ ?_
  ·obtain ⟨v38, q39, q45⟩ := bs q45
   rcases sp q45 with ⟨g40, q45⟩ | ⟨g40, q45⟩
   ·obtain ⟨v41, q42, q45⟩ := bs q45
    rcases sp q45 with ⟨g43, q45⟩ | ⟨g43, q45⟩
    ·obtain rfl := oi q45
     refine st ?_
     simp [g40, g43]
     have r46 := zAG t1 false false true v38 q39
     try simp [g40, g43] at r46
     refine zAA r46 (by simp) rfl ?_
     simp [g40, g43]
     have r47 := zAx fuel t1.Names true v41 q42
     try simp [g40, g43] at r47
     refine zAA r47 (by simp) rfl ?_
     simp [g40, g43]
    obtain rfl := oi q45
    refine st ?_
    simp [g40, g43]
    have r48 := zAG t1 false false true v38 q39
    try simp [g40, g43] at r48
    refine zAA r48 (by simp) rfl ?_
    simp [g40, g43]
    have r49 := zAx fuel t1.Names true v41 q42
    try simp [g40, g43] at r49
    refine zAA r49 (by simp) rfl ?_
    simp [g40, g43]
   obtain rfl := oi q45
   refine st ?_
   simp [g40]
   have r50 := zAG t1 false false true v38 q39
   try simp [g40] at r50
   refine zAA r50 (by simp) rfl ?_
   simp [g40]
  refine zAB <| zAE ?_
  obtain rfl := oi h
  simp
 refine zAF <| zAP <| zAM <| cutA 266 0 [(1, .mptr 0 0), (3, .int .i64 t1.L.length), (58, .bool (eqI t1.Op 24))] [t1.d] <| spc h rfl (fun g52 h => ?_) fun g52 h => ?_
 ·obtain ⟨b60, q61, h⟩ := bs h
  refine cut 266 0 [(2, .bool b60)] [t1.d] ?_ ?_
  ·obtain ⟨v54, q55, q61⟩ := bs q61
   rcases sp q61 with ⟨g56, q61⟩ | ⟨g56, q61⟩
   ·obtain ⟨v57, q58, q61⟩ := bs q61
    rcases sp q61 with ⟨g59, q61⟩ | ⟨g59, q61⟩
    ·obtain rfl := oi q61
     refine st ?_
     simp [g56, g59]
     have r62 := zAG t1 false false true v54 q55
     try simp [g56, g59] at r62
     refine zAA r62 (by simp) rfl ?_
     simp [g56, g59]
     have r63 := zAx fuel t1.Names false v57 q58
     try simp [g56, g59] at r63
     refine zAA r63 (by simp) rfl ?_
     simp [g56, g59]
    obtain rfl := oi q61
    refine st ?_
    simp [g56, g59]
    have r64 := zAG t1 false false true v54 q55
    try simp [g56, g59] at r64
    refine zAA r64 (by simp) rfl ?_
    simp [g56, g59]
    have r65 := zAx fuel t1.Names false v57 q58
    try simp [g56, g59] at r65
    refine zAA r65 (by simp) rfl ?_
    simp [g56, g59]
   obtain rfl := oi q61
   refine st ?_
   simp [g56]
   have r66 := zAG t1 false false true v54 q55
   try simp [g56] at r66
   refine zAA r66 (by simp) rfl ?_
   simp [g56]
  refine zAB <| zAE ?_
  obtain rfl := oi h
  simp
 refine zAF <| zAP <| zAM <| cutA 266 0 [(1, .mptr 0 0), (3, .int .i64 t1.L.length), (72, .bool (eqI t1.Op 25))] [t1.d] <| spc h rfl (fun g68 h => ?_) fun g68 h => ?_
 ·obtain ⟨b81, q82, h⟩ := bs h
  refine cut 266 0 [(2, .bool b81)] [t1.d] ?_ ?_
  ·obtain ⟨v70, q71, q82⟩ := bs q82
   rcases sp q82 with ⟨g72, q82⟩ | ⟨g72, q82⟩
   ·rcases sp q82 with ⟨g73, q82⟩ | ⟨g73, q82⟩
    ·obtain ⟨v74, q75, q82⟩ := bs q82
     obtain rfl := oi q82
     refine st ?_
     simp [g72, g73]
     have r83 := zAG t1 false true false v70 q71
     try simp [g72, g73] at r83
     refine zAA r83 (by simp) rfl ?_
     simp [g72, g73]
     have r84 := zAt fuel t1 [3] v74 q75
     try simp [g72, g73] at r84
     refine zAA r84 (by simp) rfl ?_
     simp [g72, g73]
    obtain ⟨v76, q77, q82⟩ := bs q82
    rcases sp q82 with ⟨g78, q82⟩ | ⟨g78, q82⟩
    ·obtain ⟨v79, q80, q82⟩ := bs q82
     obtain rfl := oi q82
     refine st ?_
     simp [g72, g73, g78]
     have r85 := zAG t1 false true false v70 q71
     try simp [g72, g73, g78] at r85
     refine zAA r85 (by simp) rfl ?_
     simp [g72, g73, g78]
     have r86 := zA9 fuel t1.S v76 q77
     try simp [g72, g73, g78] at r86
     refine zAA r86 (by simp) rfl ?_
     simp [g72, g73, g78]
     have r87 := zAt fuel t1 [3] v79 q80
     try simp [g72, g73, g78] at r87
     refine zAA r87 (by simp) rfl ?_
     simp [g72, g73, g78]
    obtain rfl := oi q82
    refine st ?_
    simp [g72, g73, g78]
    have r88 := zAG t1 false true false v70 q71
    try simp [g72, g73, g78] at r88
    refine zAA r88 (by simp) rfl ?_
    simp [g72, g73, g78]
    have r89 := zA9 fuel t1.S v76 q77
    try simp [g72, g73, g78] at r89
    refine zAA r89 (by simp) rfl ?_
    simp [g72, g73, g78]
   obtain rfl := oi q82
   refine st ?_
   simp [g72]
   have r90 := zAG t1 false true false v70 q71
   try simp [g72] at r90
   refine zAA r90 (by simp) rfl ?_
   simp [g72]
  refine zAB <| zAE ?_
  obtain rfl := oi h
  simp
 refine zAF <| zAP <| zAM <| cutA 266 0 [(1, .mptr 0 0), (3, .int .i64 t1.L.length), (92, .bool (eqI t1.Op 26))] [t1.d] <| spc h rfl (fun g92 h => ?_) fun g92 h => ?_
 ·obtain ⟨b103, q104, h⟩ := bs h
  refine cut 266 0 [(2, .bool b103)] [t1.d] ?_ ?_
  ·obtain ⟨v94, q95, q104⟩ := bs q104
   rcases sp q104 with ⟨g96, q104⟩ | ⟨g96, q104⟩
   ·obtain ⟨l97, q98, q104⟩ := bs q104
    obtain ⟨q99, q100⟩ := zD6 q98
    obtain ⟨v101, q102, q104⟩ := bs q104
    obtain rfl := oi q104
    refine st ?_
    simp [g96, q99, q100]
    have r105 := zAG t1 false false false v94 q95
    try simp [g96, q99, q100] at r105
    refine zAA r105 (by simp) rfl ?_
    simp [g96, q99, q100]
    have r106 := zAt fuel t1 l97 v101 q102
    try simp [g96, q99, q100] at r106
    refine zAA r106 (by simp) rfl ?_
    simp [g96, q99, q100]
   obtain rfl := oi q104
   refine st ?_
   simp [g96]
   have r107 := zAG t1 false false false v94 q95
   try simp [g96] at r107
   refine zAA r107 (by simp) rfl ?_
   simp [g96]
  refine zAB <| zAE ?_
  obtain rfl := oi h
  simp
 refine zAF <| zAP <| zAM <| cutA 266 0 [(1, .mptr 0 0), (3, .int .i64 t1.L.length), (102, .bool (eqI t1.Op 27))] [t1.d] <| spc h rfl (fun g109 h => ?_) fun g109 h => ?_
 ·obtain ⟨b126, q127, h⟩ := bs h
  refine cut 266 0 [(2, .bool b126)] [t1.d] ?_ ?_
  ·obtain ⟨v111, q112, q127⟩ := bs q127
   rcases sp q127 with ⟨g113, q127⟩ | ⟨g113, q127⟩
   ·rcases sp q127 with ⟨g114, q127⟩ | ⟨g114, q127⟩
    ·have g115 := notT g114
     have c116 := eqF g115
     rcases sp q127 with ⟨g117, q127⟩ | ⟨g117, q127⟩
     ·have c118 := leT g117
      refine zCJ 0 4 rfl rfl rfl fun f119 => ?_
      rw [List.length_map] at f119
      obtain ⟨v120, q121, q127⟩ := bs q127
      obtain rfl := oi q127
      refine st ?_
      simp [g113, g114, g117]
      have r128 := zAG t1 false false false v111 q112
      try simp [g113, g114, g117] at r128
      refine zAA r128 (by simp) rfl ?_
      simp [g113, g114, g117]
      have r129 := zCE fuel t1 0 (t1.L.length : Int) 3 v120 q121
      try simp [g113, g114, g117] at r129
      refine zAA r129 (by simp) rfl ?_
      simp [g113, g114, g117]
     have c122 := leF g117
     refine zCJ 0 4 rfl rfl rfl fun f123 => ?_
     rw [List.length_map] at f123
     obtain rfl := oi q127
     refine st ?_
     simp [g113, g114, g117]
     have r130 := zAG t1 false false false v111 q112
     try simp [g113, g114, g117] at r130
     refine zAA r130 (by simp) rfl ?_
     simp [g113, g114, g117]
    have g124 := notF g114
    have c125 := eqT g124
    obtain rfl := oi q127
    refine st ?_
    simp [g113, g114]
    have r131 := zAG t1 false false false v111 q112
    try simp [g113, g114] at r131
    refine zAA r131 (by simp) rfl ?_
    simp [g113, g114]
   obtain rfl := oi q127
   refine st ?_
   simp [g113]
   have r132 := zAG t1 false false false v111 q112
   try simp [g113] at r132
   refine zAA r132 (by simp) rfl ?_
   simp [g113]
  refine zAB <| zAE ?_
  obtain rfl := oi h
  simp
 refine zAF <| zAP <| zAM <| cutA 266 0 [(1, .mptr 0 0), (3, .int .i64 t1.L.length), (120, .bool (eqI t1.Op 28))] [t1.d] <| spc h rfl (fun g134 h => ?_) fun g134 h => ?_
 ·obtain ⟨b145, q146, h⟩ := bs h
  refine cut 266 0 [(2, .bool b145)] [t1.d] ?_ ?_
  ·obtain ⟨v136, q137, q146⟩ := bs q146
   rcases sp q146 with ⟨g138, q146⟩ | ⟨g138, q146⟩
   ·obtain ⟨l139, q140, q146⟩ := bs q146
    obtain ⟨q141, q142⟩ := zD6 q140
    obtain ⟨v143, q144, q146⟩ := bs q146
    obtain rfl := oi q146
    refine st ?_
    simp [g138, q141, q142]
    have r147 := zAG t1 false false false v136 q137
    try simp [g138, q141, q142] at r147
    refine zAA r147 (by simp) rfl ?_
    simp [g138, q141, q142]
    have r148 := zAt fuel t1 l139 v143 q144
    try simp [g138, q141, q142] at r148
    refine zAA r148 (by simp) rfl ?_
    simp [g138, q141, q142]
   obtain rfl := oi q146
   refine st ?_
   simp [g138]
   have r149 := zAG t1 false false false v136 q137
   try simp [g138] at r149
   refine zAA r149 (by simp) rfl ?_
   simp [g138]
  refine zAB <| zAE ?_
  obtain rfl := oi h
  simp
 refine zAF <| zAP <| zAM <| cutA 266 0 [(1, .mptr 0 0), (3, .int .i64 t1.L.length), (130, .bool (eqI t1.Op 29))] [t1.d] <| spc h rfl (fun g151 h => ?_) fun g151 h => ?_
 ·refine zAM ?_
  obtain ⟨b165, q166, h⟩ := bs h
  refine cut 266 0 [(1, .mptr 0 0), (3, .int .i64 t1.L.length), (142, .bool b165)] [t1.d] ?_ ?_
  ·obtain ⟨v153, q154, q166⟩ := bs q166
   rcases sp q166 with ⟨g155, q166⟩ | ⟨g155, q166⟩
   ·have g156 := notT g155
    obtain rfl := oi q166
    refine st ?_
    simp [g155]
    have r188 := zAG t1 false false false v153 q154
    try simp [g155] at r188
    refine zAA r188 (by simp) rfl ?_
    simp [g155]
   have g157 := notF g155
   rcases sp q166 with ⟨g158, q166⟩ | ⟨g158, q166⟩
   ·have c159 := ltT g158
    refine zCJ 0 4 rfl rfl rfl fun f160 => ?_
    rw [List.length_map] at f160
    obtain rfl := oi q166
    refine st ?_
    simp [g155, g158]
    have r189 := zAG t1 false false false v153 q154
    try simp [g155, g158] at r189
    refine zAA r189 (by simp) rfl ?_
    simp [g155, g158]
   have c161 := ltF g158
   refine zCJ 0 4 rfl rfl rfl fun f162 => ?_
   rw [List.length_map] at f162
   obtain ⟨v163, q164, q166⟩ := bs q166
   obtain rfl := oi q166
   refine st ?_
   simp [g155, g158]
   have r190 := zAG t1 false false false v153 q154
   try simp [g155, g158] at r190
   refine zAA r190 (by simp) rfl ?_
   simp [g155, g158]
   have r191 := zCE fuel t1 0 1 3 v163 q164
   try simp [g155, g158] at r191
   refine zAA r191 (by simp) rfl ?_
   simp [g155, g158]
  refine spc h rfl (fun g167 h => ?_) fun g167 h => ?_
  ·refine cutA 266 0 [(2, .bool false)] [t1.d] <| zAB <| zAE <| zAE ?_
   obtain rfl := oi h
   simp
  refine zAF <| zAP <| zAM <| cutA 266 0 [(1, .mptr 0 0), (3, .int .i64 t1.L.length), (4, .int .i64 1)] [t1.d] <| zAU ?_
  obtain ⟨o170, l171, h⟩ := bs h
  refine zB2 (fun p : Nat × Nat => mkS 266 0 [(1, .mptr 0 0), (3, .int .i64 t1.L.length), (4, .int .i64 p.2)] [t1.d]) (fun p => zB0 t1 p.1 p.2 = some o170) (fun p => p.1) (fuel, 1) l171 (zBS (by simp)) ?_
  rintro ⟨k172, i168⟩ l171
  dsimp only at l171 ⊢
  cases k172 with
  | zero =>
   rw [zB0] at l171; cases l171
  | succ k173 =>
   rw [zB0] at l171
   refine zAM <| cutA 266 0 [(1, .mptr 0 0), (3, .int .i64 t1.L.length), (4, .int .i64 i168), (145, .bool (ltI ((i168 : Nat) : Int) (t1.L.length : Int)))] [t1.d] <| spc l171 rfl (fun g174 l171 => ?_) fun g174 l171 => ?_
   ·have c175 := ltT g174
    refine zCJ 0 4 rfl rfl rfl fun f176 => ?_
    rw [List.length_map] at f176
    refine zAF <| zAP <| zAM <| zAU ?_
    obtain ⟨x177, q178, l171⟩ := bs l171
    refine cut 266 0 [(1, .mptr 0 0), (3, .int .i64 t1.L.length), (4, .int .i64 i168), (154, .bool (!(eqI x177.Op 30)))] [t1.d] (st (by simp [q178])) ?_
    rcases sp l171 with ⟨g179, l171⟩ | ⟨g179, l171⟩
    ·have g180 := notT g179
     have c181 := eqF g180
     refine zBE rfl g179 <| cutA 266 0 [(2, .bool false)] [t1.d] <| zAB <| zAJ <| zAE ?_
     replace h := retL l171 h
     refine zAE <| zAJ <| zAE <| zAE ?_
     obtain rfl := oi h
     simp
    have g182 := notF g179
    have c183 := eqT g182
    refine zGH rfl g179 <| zAF <| zCx <| zAP ?_
    have q184 : Rng .i64 (((i168 : Nat) : Int) + 1) := by simp only [Rng, inR]; omega
    try simp at q184
    refine last 266 0 [(1, .mptr 0 0), (3, .int .i64 t1.L.length), (4, .int .i64 ((i168 + 1 : Nat) : Int))] [t1.d] (st (by simp [q184])) fun zz hs => ?_
    exact ⟨(k173, i168 + 1), hs, l171, by simp⟩
   have c185 := ltF g174
   refine zCJ 0 4 rfl rfl rfl fun f186 => ?_
   rw [List.length_map] at f186
   refine zBR <| zAc ?_
   rcases o170 with o170 | o169
   ·cases l171
   have q187 := Sum.inr.inj (Option.some.inj l171)
   replace h := zFp h
   refine zAc <| zBQ <| zBT (t := mkS 266 0 [] [t1.d]) ?_ (zBS (by simp))
   refine cutA 266 0 [(2, .bool true)] [t1.d] <| zAB <| zAE ?_
   obtain rfl := oi h
   simp
 refine zAF <| zAP <| zAM <| cutA 266 0 [(1, .mptr 0 0), (3, .int .i64 t1.L.length), (157, .bool (eqI t1.Op 30))] [t1.d] <| spc h rfl (fun g193 h => ?_) fun g193 h => ?_
 ·obtain ⟨b204, q205, h⟩ := bs h
  refine cut 266 0 [(2, .bool b204)] [t1.d] ?_ ?_
  ·obtain ⟨v195, q196, q205⟩ := bs q205
   rcases sp q205 with ⟨g197, q205⟩ | ⟨g197, q205⟩
   ·obtain ⟨l198, q199, q205⟩ := bs q205
    obtain ⟨q200, q201⟩ := zD6 q199
    obtain ⟨v202, q203, q205⟩ := bs q205
    obtain rfl := oi q205
    refine st ?_
    simp [g197, q200, q201]
    have r206 := zAG t1 false false false v195 q196
    try simp [g197, q200, q201] at r206
    refine zAA r206 (by simp) rfl ?_
    simp [g197, q200, q201]
    have r207 := zAt fuel t1 l198 v202 q203
    try simp [g197, q200, q201] at r207
    refine zAA r207 (by simp) rfl ?_
    simp [g197, q200, q201]
   obtain rfl := oi q205
   refine st ?_
   simp [g197]
   have r208 := zAG t1 false false false v195 q196
   try simp [g197] at r208
   refine zAA r208 (by simp) rfl ?_
   simp [g197]
  refine zAB <| zAE ?_
  obtain rfl := oi h
  simp
 refine zAF <| zAP <| zAM <| cutA 266 0 [(1, .mptr 0 0), (3, .int .i64 t1.L.length), (167, .bool (eqI t1.Op 31))] [t1.d] <| spc h rfl (fun g210 h => ?_) fun g210 h => ?_
 ·refine zAM ?_
  obtain ⟨b225, q226, h⟩ := bs h
  refine cut 266 0 [(1, .mptr 0 0), (3, .int .i64 t1.L.length), (182, .bool b225)] [t1.d] ?_ ?_
  ·obtain ⟨v212, q213, q226⟩ := bs q226
   rcases sp q226 with ⟨g214, q226⟩ | ⟨g214, q226⟩
   ·have g215 := notT g214
    obtain rfl := oi q226
    refine st ?_
    simp [g214]
    have r259 := zAG t1 false false false v212 q213
    try simp [g214] at r259
    refine zAA r259 (by simp) rfl ?_
    simp [g214]
   have g216 := notF g214
   rcases sp q226 with ⟨g217, q226⟩ | ⟨g217, q226⟩
   ·have c218 := ltT g217
    refine zCJ 0 4 rfl rfl rfl fun f219 => ?_
    rw [List.length_map] at f219
    obtain rfl := oi q226
    refine st ?_
    simp [g214, g217]
    have r260 := zAG t1 false false false v212 q213
    try simp [g214, g217] at r260
    refine zAA r260 (by simp) rfl ?_
    simp [g214, g217]
   have c220 := ltF g217
   refine zCJ 0 4 rfl rfl rfl fun f221 => ?_
   rw [List.length_map] at f221
   have q222 : Rng .i64 ((t1.L.length : Int) - 1) := by simp only [Rng, inR]; omega
   try simp at q222
   obtain ⟨v223, q224, q226⟩ := bs q226
   obtain rfl := oi q226
   refine st ?_
   simp [g214, g217, q222]
   have r261 := zAG t1 false false false v212 q213
   try simp [g214, g217, q222] at r261
   refine zAA r261 (by simp) rfl ?_
   simp [g214, g217, q222]
   have r262 := zCE fuel t1 ((t1.L.length : Int) - 1) (t1.L.length : Int) 3 v223 q224
   try simp [g214, g217, q222] at r262
   refine zAA r262 (by simp) rfl ?_
   simp [g214, g217, q222]
  refine spc h rfl (fun g227 h => ?_) fun g227 h => ?_
  ·refine cutA 266 0 [(2, .bool false)] [t1.d] <| zAB <| zAE <| zAE ?_
   obtain rfl := oi h
   simp
  refine zAF <| zAP <| zAM <| cutA 266 0 [(1, .mptr 0 0), (3, .int .i64 t1.L.length), (5, .int .i64 0)] [t1.d] <| zAU ?_
  obtain ⟨o230, l231, h⟩ := bs h
  refine zB2 (fun p : Nat × Nat => mkS 266 0 [(1, .mptr 0 0), (3, .int .i64 t1.L.length), (5, .int .i64 p.2)] [t1.d]) (fun p => zBz t1 p.1 p.2 = some o230) (fun p => p.1) (fuel, 0) l231 (zBS (by simp)) ?_
  rintro ⟨k232, i228⟩ l231
  dsimp only at l231 ⊢
  cases k232 with
  | zero =>
   rw [zBz] at l231; cases l231
  | succ k233 =>
   rw [zBz] at l231
   refine zAM ?_
   obtain ⟨n234, q235, l231⟩ := bs l231
   obtain ⟨q236, q237⟩ := zFi q235
   try simp at q236
   try simp at q237
   have c238 := q236; simp only [Rng, inR] at c238
   refine cut 266 0 [(1, .mptr 0 0), (3, .int .i64 t1.L.length), (5, .int .i64 i228), (186, .bool (ltI ((i228 : Nat) : Int) n234))] [t1.d] (st (by simp [q236, q237])) <| spc l231 rfl (fun g239 l231 => ?_) fun g239 l231 => ?_
   ·have c240 := ltT g239
    refine zAF <| zAP <| zAM <| zAU ?_
    obtain ⟨b253, q254, l231⟩ := bs l231
    refine cut 266 0 [(1, .mptr 0 0), (3, .int .i64 t1.L.length), (5, .int .i64 i228), (213, .bool b253)] [t1.d] ?_ ?_
    ·obtain ⟨x241, q242, q254⟩ := bs q254
     rcases sp q254 with ⟨g243, q254⟩ | ⟨g243, q254⟩
     ·have g244 := notT g243
      have c245 := eqF g244
      rcases sp q254 with ⟨g246, q254⟩ | ⟨g246, q254⟩
      ·have g247 := notT g246
       have c248 := eqF g247
       obtain rfl := oi q254
       refine st ?_
       simp [q242, g243, g246]
      have g249 := notF g246
      have c250 := eqT g249
      obtain rfl := oi q254
      refine st ?_
      simp [q242, g243, g246]
     have g251 := notF g243
     have c252 := eqT g251
     obtain rfl := oi q254
     refine st ?_
     simp [q242, g243]
    refine spc l231 rfl (fun g255 l231 => ?_) fun g255 l231 => ?_
    ·refine cutA 266 0 [(2, .bool false)] [t1.d] <| zAB <| zAJ <| zAE ?_
     replace h := retL l231 h
     refine zAE <| zAJ <| zAE <| zAE ?_
     obtain rfl := oi h
     simp
    refine zAF <| zCx <| zAP ?_
    have q256 : Rng .i64 (((i228 : Nat) : Int) + 1) := by simp only [Rng, inR]; omega
    try simp at q256
    refine last 266 0 [(1, .mptr 0 0), (3, .int .i64 t1.L.length), (5, .int .i64 ((i228 + 1 : Nat) : Int))] [t1.d] (st (by simp [q256])) fun zz hs => ?_
    exact ⟨(k233, i228 + 1), hs, l231, by simp⟩
   have c257 := ltF g239
   refine zBR <| zAc ?_
   rcases o230 with o230 | o229
   ·cases l231
   have q258 := Sum.inr.inj (Option.some.inj l231)
   replace h := zFp h
   refine zAc <| zBQ <| zBT (t := mkS 266 0 [] [t1.d]) ?_ (zBS (by simp))
   refine cutA 266 0 [(2, .bool true)] [t1.d] <| zAB <| zAE ?_
   obtain rfl := oi h
   simp
 refine zAF <| zAP <| zAM <| cutA 266 0 [(1, .mptr 0 0), (216, .bool (eqI t1.Op 32))] [t1.d] <| spc h rfl (fun g264 h => ?_) fun g264 h => ?_
 ·refine zAM <| cutA 266 0 [(1, .mptr 0 0), (219, .bool (eqI t1.N 12))] [t1.d] <| spc h rfl (fun g266 h => ?_) fun g266 h => ?_
  ·obtain ⟨b273, q274, h⟩ := bs h
   refine cut 266 0 [(2, .bool b273)] [t1.d] ?_ ?_
   ·obtain ⟨v268, q269, q274⟩ := bs q274
    rcases sp q274 with ⟨g270, q274⟩ | ⟨g270, q274⟩
    ·obtain ⟨v271, q272, q274⟩ := bs q274
     obtain rfl := oi q274
     refine st ?_
     simp [g270]
     have r275 := zAG t1 true false false v268 q269
     try simp [g270] at r275
     refine zAA r275 (by simp) rfl ?_
     simp [g270]
     have r276 := zAt fuel t1 [3] v271 q272
     try simp [g270] at r276
     refine zAA r276 (by simp) rfl ?_
     simp [g270]
    obtain rfl := oi q274
    refine st ?_
    simp [g270]
    have r277 := zAG t1 true false false v268 q269
    try simp [g270] at r277
    refine zAA r277 (by simp) rfl ?_
    simp [g270]
   refine zAB <| zAE <| zAE ?_
   obtain rfl := oi h
   simp
  refine zAF <| zAP ?_
  obtain ⟨b294, q295, h⟩ := bs h
  refine cut 266 0 [(2, .bool b294)] [t1.d] ?_ ?_
  ·obtain ⟨v279, q280, q295⟩ := bs q295
   rcases sp q295 with ⟨g281, q295⟩ | ⟨g281, q295⟩
   ·rcases sp q295 with ⟨g282, q295⟩ | ⟨g282, q295⟩
    ·have c283 := leT g282
     rcases sp q295 with ⟨g284, q295⟩ | ⟨g284, q295⟩
     ·have c285 := leT g284
      obtain ⟨l286, q287, q295⟩ := bs q295
      obtain ⟨q288, q289⟩ := zD6 q287
      obtain ⟨v290, q291, q295⟩ := bs q295
      obtain rfl := oi q295
      refine st ?_
      simp [g281, g282, g284, q288, q289]
      have r296 := zAG t1 true false false v279 q280
      try simp [g281, g282, g284, q288, q289] at r296
      refine zAA r296 (by simp) rfl ?_
      simp [g281, g282, g284, q288, q289]
      have r297 := zAt fuel t1 l286 v290 q291
      try simp [g281, g282, g284, q288, q289] at r297
      refine zAA r297 (by simp) rfl ?_
      simp [g281, g282, g284, q288, q289]
     have c292 := leF g284
     obtain rfl := oi q295
     refine st ?_
     simp [g281, g282, g284]
     have r298 := zAG t1 true false false v279 q280
     try simp [g281, g282, g284] at r298
     refine zAA r298 (by simp) rfl ?_
     simp [g281, g282, g284]
    have c293 := leF g282
    obtain rfl := oi q295
    refine st ?_
    simp [g281, g282]
    have r299 := zAG t1 true false false v279 q280
    try simp [g281, g282] at r299
    refine zAA r299 (by simp) rfl ?_
    simp [g281, g282]
   obtain rfl := oi q295
   refine st ?_
   simp [g281]
   have r300 := zAG t1 true false false v279 q280
   try simp [g281] at r300
   refine zAA r300 (by simp) rfl ?_
   simp [g281]
  refine zAB <| zAE ?_
  obtain rfl := oi h
  simp
 refine zAF <| zAP <| zAM <| cutA 266 0 [(1, .mptr 0 0), (246, .bool (eqI t1.Op 33))] [t1.d] <| spc h rfl (fun g302 h => ?_) fun g302 h => ?_
 ·obtain ⟨b313, q314, h⟩ := bs h
  refine cut 266 0 [(2, .bool b313)] [t1.d] ?_ ?_
  ·obtain ⟨v304, q305, q314⟩ := bs q314
   rcases sp q314 with ⟨g306, q314⟩ | ⟨g306, q314⟩
   ·obtain ⟨l307, q308, q314⟩ := bs q314
    obtain ⟨q309, q310⟩ := zD6 q308
    obtain ⟨v311, q312, q314⟩ := bs q314
    obtain rfl := oi q314
    refine st ?_
    simp [g306, q309, q310]
    have r315 := zAG t1 false false false v304 q305
    try simp [g306, q309, q310] at r315
    refine zAA r315 (by simp) rfl ?_
    simp [g306, q309, q310]
    have r316 := zAt fuel t1 l307 v311 q312
    try simp [g306, q309, q310] at r316
    refine zAA r316 (by simp) rfl ?_
    simp [g306, q309, q310]
   obtain rfl := oi q314
   refine st ?_
   simp [g306]
   have r317 := zAG t1 false false false v304 q305
   try simp [g306] at r317
   refine zAA r317 (by simp) rfl ?_
   simp [g306]
  refine zAB <| zAE ?_
  obtain rfl := oi h
  simp
 refine zAF <| zAP ?_
 obtain ⟨b327, q328, h⟩ := bs h
 refine cut 266 0 [(2, .bool b327)] [t1.d] ?_ ?_
 ·obtain ⟨v319, q320, q328⟩ := bs q328
  rcases sp q328 with ⟨g321, q328⟩ | ⟨g321, q328⟩
  ·obtain ⟨v322, q323, q328⟩ := bs q328
   rcases sp q328 with ⟨g324, q328⟩ | ⟨g324, q328⟩
   ·obtain ⟨v325, q326, q328⟩ := bs q328
    obtain rfl := oi q328
    refine st ?_
    simp [g321, g324]
    have r329 := zAG t1 false false true v319 q320
    try simp [g321, g324] at r329
    refine zAA r329 (by simp) rfl ?_
    simp [g321, g324]
    have r330 := zAx fuel t1.Names false v322 q323
    try simp [g321, g324] at r330
    refine zAA r330 (by simp) rfl ?_
    simp [g321, g324]
    have r331 := zAt fuel t1 [0] v325 q326
    try simp [g321, g324] at r331
    refine zAA r331 (by simp) rfl ?_
    simp [g321, g324]
   obtain rfl := oi q328
   refine st ?_
   simp [g321, g324]
   have r332 := zAG t1 false false true v319 q320
   try simp [g321, g324] at r332
   refine zAA r332 (by simp) rfl ?_
   simp [g321, g324]
   have r333 := zAx fuel t1.Names false v322 q323
   try simp [g321, g324] at r333
   refine zAA r333 (by simp) rfl ?_
   simp [g321, g324]
  obtain rfl := oi q328
  refine st ?_
  simp [g321]
  have r334 := zAG t1 false false true v319 q320
  try simp [g321] at r334
  refine zAA r334 (by simp) rfl ?_
  simp [g321]
 refine zAB ?_
 obtain rfl := oi h
 simp
theorem zC5 (fuel : Nat) (l1 : (List (List UInt8))) (r : Bool) (h : zC4 fuel l1 = some r) : Pure Tryz.prog 138 [.sl (l1.map cS)] (.bool r) := by
 rw [zC4] at h
 refine zAO Tryz.func138 (by rfl) (by rfl) (by simp) (by simp) (by simp) <| cutA 34 0 [(0, .sl (l1.map cS))] [] <| zAM <| cutA 34 0 [(0, .sl (l1.map cS)), (3, .int .i64 0)] [] <| zAU ?_
 obtain ⟨o4, l5, h⟩ := bs h
 refine zB2 (fun p : Nat × Nat => mkS 34 0 [(0, .sl (l1.map cS)), (3, .int .i64 p.2)] []) (fun p => zCc fuel l1 p.1 p.2 = some o4) (fun p => p.1) (fuel, 0) l5 (zBS (by simp)) ?_
 rintro ⟨k6, i2⟩ l5
 dsimp only at l5 ⊢
 cases k6 with
 | zero =>
  rw [zCc] at l5; cases l5
 | succ k7 =>
  rw [zCc] at l5
  refine zAM <| cutA 34 0 [(0, .sl (l1.map cS)), (3, .int .i64 i2), (8, .bool (ltI ((i2 : Nat) : Int) (l1.length : Int)))] [] <| spc l5 rfl (fun g8 l5 => ?_) fun g8 l5 => ?_
  ·have c9 := ltT g8
   refine zD3 0 rfl fun f10 => ?_
   rw [List.length_map] at f10
   refine zAF <| zAP <| zAM <| zAU <| zAM ?_
   obtain ⟨x11, q12, l5⟩ := bs l5
   obtain ⟨v13, q14, l5⟩ := bs l5
   refine cut 34 0 [(0, .sl (l1.map cS)), (3, .int .i64 i2), (16, .bool (!v13))] [] ?_ ?_
   ·refine st ?_
    simp [q12]
    have r33 := zE8 fuel x11 v13 q14
    try simp [q12] at r33
    refine zAA r33 (by simp) rfl ?_
    simp [q12]
   refine spc l5 rfl (fun g15 l5 => ?_) fun g15 l5 => ?_
   ·have g16 := notT g15
    refine cutA 34 0 [(2, .bool false)] [] <| zAB <| zAE <| zAJ <| zAE ?_
    replace h := retL l5 h
    refine zAE <| zAJ <| zAE ?_
    obtain rfl := oi h
    simp
   have g17 := notF g15
   refine zAF <| zAP <| cutA 34 0 [(0, .sl (l1.map cS)), (3, .int .i64 i2), (4, .int .i64 0)] [] <| zAU ?_
   obtain ⟨o20, l21, l5⟩ := bs l5
   refine zB2 (fun p : Nat × Nat => mkS 34 0 [(0, .sl (l1.map cS)), (3, .int .i64 i2), (4, .int .i64 p.2)] []) (fun p => zCb l1 i2 x11 p.1 p.2 = some o20) (fun p => p.1) (fuel, 0) l21 (zBS (by simp)) ?_
   rintro ⟨k22, j18⟩ l21
   dsimp only at l21 ⊢
   cases k22 with
   | zero =>
    rw [zCb] at l21; cases l21
   | succ k23 =>
    rw [zCb] at l21
    refine zAM <| cutA 34 0 [(0, .sl (l1.map cS)), (3, .int .i64 i2), (4, .int .i64 j18), (19, .bool (ltI ((j18 : Nat) : Int) ((i2 : Nat) : Int)))] [] <| spc l21 rfl (fun g24 l21 => ?_) fun g24 l21 => ?_
    ·have c25 := ltT g24
     refine zAF <| zAP <| zAM <| zAU ?_
     obtain ⟨x26, q27, l21⟩ := bs l21
     refine cut 34 0 [(0, .sl (l1.map cS)), (3, .int .i64 i2), (4, .int .i64 j18), (30, .bool (eqS x11 x26))] [] ?_ ?_
     ·refine zAW [] mixed (n := 34) rfl (by decide) ?_
      simp [q12, q27]
     refine spc l21 rfl (fun g28 l21 => ?_) fun g28 l21 => ?_
     ·refine cutA 34 0 [(2, .bool false)] [] <| zAB <| zAJ <| zAE ?_
      replace l5 := retL l21 l5
      refine zAE <| zAJ <| zAJ <| zAE ?_
      replace h := retL l5 h
      refine zAE <| zAJ <| zAE ?_
      obtain rfl := oi h
      simp
     refine zAF <| zCx <| zAP ?_
     have q29 : Rng .i64 (((j18 : Nat) : Int) + 1) := by simp only [Rng, inR]; omega
     try simp at q29
     refine last 34 0 [(0, .sl (l1.map cS)), (3, .int .i64 i2), (4, .int .i64 ((j18 + 1 : Nat) : Int))] [] (st (by simp [q29])) fun zz hs => ?_
     exact ⟨(k23, j18 + 1), hs, l21, by simp⟩
    have c30 := ltF g24
    refine zBR <| zAc ?_
    rcases o20 with o20 | o19
    ·cases l21
    have q31 := Sum.inr.inj (Option.some.inj l21)
    replace l5 := zFp l5
    refine zAc <| zBQ <| zCx <| zBT (t := mkS 34 0 [(0, .sl (l1.map cS)), (3, .int .i64 i2)] []) ?_ (zBS (by simp))
    have q32 : Rng .i64 (((i2 : Nat) : Int) + 1) := by simp only [Rng, inR]; omega
    try simp at q32
    refine last 34 0 [(0, .sl (l1.map cS)), (3, .int .i64 ((i2 + 1 : Nat) : Int))] [] (st (by simp [q32])) fun zz hs => ?_
    exact ⟨(k7, i2 + 1), hs, l5, by simp⟩
  have c34 := ltF g8
  refine zD3 0 rfl fun f35 => ?_
  rw [List.length_map] at f35
  refine zBR <| zAc ?_
  rcases o4 with o4 | o3
  ·cases l5
  have q36 := Sum.inr.inj (Option.some.inj l5)
  replace h := zFp h
  refine zAc <| zBQ <| zBT (t := mkS 34 0 [(0, .sl (l1.map cS))] []) ?_ (zBS (by simp))
  refine cutA 34 0 [(2, .bool (leI (l1.length : Int) 4))] [] <| zAB ?_
  obtain rfl := oi h
  simp
theorem zHa (fuel : Nat) (t1 : zJC) (r : Bool) (h : zBj fuel t1 = some r) : Pure Tryz.prog 122 [.agg t1.d] (.bool r) := by
 rw [zBj] at h
 refine zAO Tryz.func122 (by rfl) (by rfl) (by simp) (by simp) (by simp) <| cutA 223 0 [(1, .mptr 0 0)] [t1.d] <| cutA 223 0 [(1, .mptr 0 0), (3, .int .i64 t1.L.length)] [t1.d] <| zAM <| cutA 223 0 [(1, .mptr 0 0), (3, .int .i64 t1.L.length), (12, .bool (eqI t1.Op 41))] [t1.d] <| spc h rfl (fun g2 h => ?_) fun g2 h => ?_
 ·obtain ⟨b12, q13, h⟩ := bs h
  refine cut 223 0 [(2, .bool b12)] [t1.d] ?_ ?_
  ·obtain ⟨v4, q5, q13⟩ := bs q13
   rcases sp q13 with ⟨g6, q13⟩ | ⟨g6, q13⟩
   ·obtain ⟨v7, q8, q13⟩ := bs q13
    rcases sp q13 with ⟨g9, q13⟩ | ⟨g9, q13⟩
    ·obtain ⟨v10, q11, q13⟩ := bs q13
     obtain rfl := oi q13
     refine st ?_
     simp [g6, g9]
     have r14 := zAG t1 false true false v4 q5
     try simp [g6, g9] at r14
     refine zAA r14 (by simp) rfl ?_
     simp [g6, g9]
     have r15 := zA9 fuel t1.S v7 q8
     try simp [g6, g9] at r15
     refine zAA r15 (by simp) rfl ?_
     simp [g6, g9]
     have r16 := zAt fuel t1 [3] v10 q11
     try simp [g6, g9] at r16
     refine zAA r16 (by simp) rfl ?_
     simp [g6, g9]
    obtain rfl := oi q13
    refine st ?_
    simp [g6, g9]
    have r17 := zAG t1 false true false v4 q5
    try simp [g6, g9] at r17
    refine zAA r17 (by simp) rfl ?_
    simp [g6, g9]
    have r18 := zA9 fuel t1.S v7 q8
    try simp [g6, g9] at r18
    refine zAA r18 (by simp) rfl ?_
    simp [g6, g9]
   obtain rfl := oi q13
   refine st ?_
   simp [g6]
   have r19 := zAG t1 false true false v4 q5
   try simp [g6] at r19
   refine zAA r19 (by simp) rfl ?_
   simp [g6]
  refine zAB <| zAE ?_
  obtain rfl := oi h
  simp
 refine zAF <| zAP <| zAM <| cutA 223 0 [(1, .mptr 0 0), (3, .int .i64 t1.L.length), (27, .bool (eqI t1.Op 42))] [t1.d] <| spc h rfl (fun g21 h => ?_) fun g21 h => ?_
 ·refine zAM ?_
  obtain ⟨b38, q39, h⟩ := bs h
  refine cut 223 0 [(1, .mptr 0 0), (48, .bool b38)] [t1.d] ?_ ?_
  ·obtain ⟨v23, q24, q39⟩ := bs q39
   rcases sp q39 with ⟨g25, q39⟩ | ⟨g25, q39⟩
   ·have g26 := notT g25
    obtain rfl := oi q39
    refine st ?_
    simp [g25]
    have r65 := zAG t1 false true true v23 q24
    try simp [g25] at r65
    refine zAA r65 (by simp) rfl ?_
    simp [g25]
   have g27 := notF g25
   obtain ⟨v28, q29, q39⟩ := bs q39
   rcases sp q39 with ⟨g30, q39⟩ | ⟨g30, q39⟩
   ·have g31 := notT g30
    obtain rfl := oi q39
    refine st ?_
    simp [g25, g30]
    have r66 := zAG t1 false true true v23 q24
    try simp [g25, g30] at r66
    refine zAA r66 (by simp) rfl ?_
    simp [g25, g30]
    have r67 := zA9 fuel t1.S v28 q29
    try simp [g25, g30] at r67
    refine zAA r67 (by simp) rfl ?_
    simp [g25, g30]
   have g32 := notF g30
   rcases sp q39 with ⟨g33, q39⟩ | ⟨g33, q39⟩
   ·have c34 := ltT g33
    refine zCJ 0 3 rfl rfl rfl fun f35 => ?_
    rw [List.length_map] at f35
    obtain rfl := oi q39
    refine st ?_
    simp [g25, g30, g33]
    have r68 := zAG t1 false true true v23 q24
    try simp [g25, g30, g33] at r68
    refine zAA r68 (by simp) rfl ?_
    simp [g25, g30, g33]
    have r69 := zA9 fuel t1.S v28 q29
    try simp [g25, g30, g33] at r69
    refine zAA r69 (by simp) rfl ?_
    simp [g25, g30, g33]
   have c36 := ltF g33
   refine zCJ 0 3 rfl rfl rfl fun f37 => ?_
   rw [List.length_map] at f37
   obtain rfl := oi q39
   refine st ?_
   simp [g25, g30, g33]
   have r70 := zAG t1 false true true v23 q24
   try simp [g25, g30, g33] at r70
   refine zAA r70 (by simp) rfl ?_
   simp [g25, g30, g33]
   have r71 := zA9 fuel t1.S v28 q29
   try simp [g25, g30, g33] at r71
   refine zAA r71 (by simp) rfl ?_
   simp [g25, g30, g33]
  refine spc h rfl (fun g40 h => ?_) fun g40 h => ?_
  ·refine cutA 223 0 [(2, .bool false)] [t1.d] <| zAB <| zAE <| zAE ?_
   obtain rfl := oi h
   simp
  refine zAF <| zAP <| zAM <| cutA 223 0 [(1, .mptr 0 0), (4, .int .i64 0)] [t1.d] <| zAU ?_
  obtain ⟨o43, l44, h⟩ := bs h
  refine zB2 (fun p : Nat × Nat => mkS 223 0 [(1, .mptr 0 0), (4, .int .i64 p.2)] [t1.d]) (fun p => zBn fuel t1 p.1 p.2 = some o43) (fun p => p.1) (fuel, 0) l44 (zBS (by simp)) ?_
  rintro ⟨k45, i41⟩ l44
  dsimp only at l44 ⊢
  cases k45 with
  | zero =>
   rw [zBn] at l44; cases l44
  | succ k46 =>
   rw [zBn] at l44
   refine zAM <| cutA 223 0 [(1, .mptr 0 0), (4, .int .i64 i41), (53, .bool (ltI ((i41 : Nat) : Int) (t1.Names.length : Int)))] [t1.d] <| spc l44 rfl (fun g47 l44 => ?_) fun g47 l44 => ?_
   ·have c48 := ltT g47
    refine zCJ 0 3 rfl rfl rfl fun f49 => ?_
    rw [List.length_map] at f49
    refine zAF <| zAP <| zAM <| zAU ?_
    obtain ⟨x50, q51, l44⟩ := bs l44
    obtain ⟨v52, q53, l44⟩ := bs l44
    refine cut 223 0 [(1, .mptr 0 0), (4, .int .i64 i41), (62, .bool (!v52))] [t1.d] ?_ ?_
    ·refine st ?_
     simp [q51]
     have r58 := zA9 fuel x50 v52 q53
     try simp [q51] at r58
     refine zAA r58 (by simp) rfl ?_
     simp [q51]
    refine spc l44 rfl (fun g54 l44 => ?_) fun g54 l44 => ?_
    ·have g55 := notT g54
     refine cutA 223 0 [(2, .bool false)] [t1.d] <| zAB <| zAJ <| zAE ?_
     replace h := retL l44 h
     refine zAE <| zAJ <| zAE <| zAE ?_
     obtain rfl := oi h
     simp
    have g56 := notF g54
    refine zAF <| zCx <| zAP ?_
    have q57 : Rng .i64 (((i41 : Nat) : Int) + 1) := by simp only [Rng, inR]; omega
    try simp at q57
    refine last 223 0 [(1, .mptr 0 0), (4, .int .i64 ((i41 + 1 : Nat) : Int))] [t1.d] (st (by simp [q57])) fun zz hs => ?_
    exact ⟨(k46, i41 + 1), hs, l44, by simp⟩
   have c59 := ltF g47
   refine zCJ 0 3 rfl rfl rfl fun f60 => ?_
   rw [List.length_map] at f60
   refine zBR <| zAc ?_
   rcases o43 with o43 | o42
   ·cases l44
   have q61 := Sum.inr.inj (Option.some.inj l44)
   replace h := zFp h
   refine zAc <| zBQ <| zBT (t := mkS 223 0 [(1, .mptr 0 0)] [t1.d]) ?_ (zBS (by simp))
   obtain ⟨v62, q63, h⟩ := bs h
   refine cut 223 0 [(2, .bool v62)] [t1.d] ?_ ?_
   ·refine st ?_
    simp
    have r64 := zAt fuel t1 [3] v62 q63
    try simp at r64
    refine zAA r64 (by simp) rfl ?_
    simp
   refine zAB <| zAE ?_
   obtain rfl := oi h
   simp
 refine zAF <| zAP <| zAM <| cutA 223 0 [(1, .mptr 0 0), (3, .int .i64 t1.L.length), (68, .bool (eqI t1.Op 43))] [t1.d] <| spc h rfl (fun g73 h => ?_) fun g73 h => ?_
 ·obtain ⟨b92, q93, h⟩ := bs h
  refine cut 223 0 [(2, .bool b92)] [t1.d] ?_ ?_
  ·obtain ⟨v75, q76, q93⟩ := bs q93
   rcases sp q93 with ⟨g77, q93⟩ | ⟨g77, q93⟩
   ·rcases sp q93 with ⟨g78, q93⟩ | ⟨g78, q93⟩
    ·obtain ⟨v79, q80, q93⟩ := bs q93
     rcases sp q93 with ⟨g81, q93⟩ | ⟨g81, q93⟩
     ·obtain ⟨v82, q83, q93⟩ := bs q93
      obtain rfl := oi q93
      refine st ?_
      simp [g77, g78, g81]
      have r94 := zAG t1 false true true v75 q76
      try simp [g77, g78, g81] at r94
      refine zAA r94 (by simp) rfl ?_
      simp [g77, g78, g81]
      have r95 := zC5 fuel t1.Names v79 q80
      try simp [g77, g78, g81] at r95
      refine zAA r95 (by simp) rfl ?_
      simp [g77, g78, g81]
      have r96 := zAt fuel t1 [1] v82 q83
      try simp [g77, g78, g81] at r96
      refine zAA r96 (by simp) rfl ?_
      simp [g77, g78, g81]
     obtain rfl := oi q93
     refine st ?_
     simp [g77, g78, g81]
     have r97 := zAG t1 false true true v75 q76
     try simp [g77, g78, g81] at r97
     refine zAA r97 (by simp) rfl ?_
     simp [g77, g78, g81]
     have r98 := zC5 fuel t1.Names v79 q80
     try simp [g77, g78, g81] at r98
     refine zAA r98 (by simp) rfl ?_
     simp [g77, g78, g81]
    obtain ⟨v84, q85, q93⟩ := bs q93
    rcases sp q93 with ⟨g86, q93⟩ | ⟨g86, q93⟩
    ·obtain ⟨v87, q88, q93⟩ := bs q93
     rcases sp q93 with ⟨g89, q93⟩ | ⟨g89, q93⟩
     ·obtain ⟨v90, q91, q93⟩ := bs q93
      obtain rfl := oi q93
      refine st ?_
      simp [g77, g78, g86, g89]
      have r99 := zAG t1 false true true v75 q76
      try simp [g77, g78, g86, g89] at r99
      refine zAA r99 (by simp) rfl ?_
      simp [g77, g78, g86, g89]
      have r100 := zA9 fuel t1.S v84 q85
      try simp [g77, g78, g86, g89] at r100
      refine zAA r100 (by simp) rfl ?_
      simp [g77, g78, g86, g89]
      have r101 := zC5 fuel t1.Names v87 q88
      try simp [g77, g78, g86, g89] at r101
      refine zAA r101 (by simp) rfl ?_
      simp [g77, g78, g86, g89]
      have r102 := zAt fuel t1 [1] v90 q91
      try simp [g77, g78, g86, g89] at r102
      refine zAA r102 (by simp) rfl ?_
      simp [g77, g78, g86, g89]
     obtain rfl := oi q93
     refine st ?_
     simp [g77, g78, g86, g89]
     have r103 := zAG t1 false true true v75 q76
     try simp [g77, g78, g86, g89] at r103
     refine zAA r103 (by simp) rfl ?_
     simp [g77, g78, g86, g89]
     have r104 := zA9 fuel t1.S v84 q85
     try simp [g77, g78, g86, g89] at r104
     refine zAA r104 (by simp) rfl ?_
     simp [g77, g78, g86, g89]
     have r105 := zC5 fuel t1.Names v87 q88
     try simp [g77, g78, g86, g89] at r105
     refine zAA r105 (by simp) rfl ?_
     simp [g77, g78, g86, g89]
    obtain rfl := oi q93
    refine st ?_
    simp [g77, g78, g86]
    have r106 := zAG t1 false true true v75 q76
    try simp [g77, g78, g86] at r106
    refine zAA r106 (by simp) rfl ?_
    simp [g77, g78, g86]
    have r107 := zA9 fuel t1.S v84 q85
    try simp [g77, g78, g86] at r107
    refine zAA r107 (by simp) rfl ?_
    simp [g77, g78, g86]
   obtain rfl := oi q93
   refine st ?_
   simp [g77]
   have r108 := zAG t1 false true true v75 q76
   try simp [g77] at r108
   refine zAA r108 (by simp) rfl ?_
   simp [g77]
  refine zAB <| zAE ?_
  obtain rfl := oi h
  simp
 refine zAF <| zAP <| zAM <| cutA 223 0 [(1, .mptr 0 0), (3, .int .i64 t1.L.length), (93, .bool (eqI t1.Op 44))] [t1.d] <| spc h rfl (fun g110 h => ?_) fun g110 h => ?_
 ·refine zAM ?_
  obtain ⟨b127, q128, h⟩ := bs h
  refine cut 223 0 [(1, .mptr 0 0), (3, .int .i64 t1.L.length), (112, .bool b127)] [t1.d] ?_ ?_
  ·obtain ⟨v112, q113, q128⟩ := bs q128
   rcases sp q128 with ⟨g114, q128⟩ | ⟨g114, q128⟩
   ·have g115 := notT g114
    obtain rfl := oi q128
    refine st ?_
    simp [g114]
    have r164 := zAG t1 false true true v112 q113
    try simp [g114] at r164
    refine zAA r164 (by simp) rfl ?_
    simp [g114]
   have g116 := notF g114
   obtain ⟨v117, q118, q128⟩ := bs q128
   rcases sp q128 with ⟨g119, q128⟩ | ⟨g119, q128⟩
   ·have g120 := notT g119
    obtain rfl := oi q128
    refine st ?_
    simp [g114, g119]
    have r165 := zAG t1 false true true v112 q113
    try simp [g114, g119] at r165
    refine zAA r165 (by simp) rfl ?_
    simp [g114, g119]
    have r166 := zA9 fuel t1.S v117 q118
    try simp [g114, g119] at r166
    refine zAA r166 (by simp) rfl ?_
    simp [g114, g119]
   have g121 := notF g119
   obtain ⟨v122, q123, q128⟩ := bs q128
   rcases sp q128 with ⟨g124, q128⟩ | ⟨g124, q128⟩
   ·have g125 := notT g124
    obtain rfl := oi q128
    refine st ?_
    simp [g114, g119, g124]
    have r167 := zAG t1 false true true v112 q113
    try simp [g114, g119, g124] at r167
    refine zAA r167 (by simp) rfl ?_
    simp [g114, g119, g124]
    have r168 := zA9 fuel t1.S v117 q118
    try simp [g114, g119, g124] at r168
    refine zAA r168 (by simp) rfl ?_
    simp [g114, g119, g124]
    have r169 := zC5 fuel t1.Names v122 q123
    try simp [g114, g119, g124] at r169
    refine zAA r169 (by simp) rfl ?_
    simp [g114, g119, g124]
   have g126 := notF g124
   obtain rfl := oi q128
   refine st ?_
   simp [g114, g119, g124]
   have r170 := zAG t1 false true true v112 q113
   try simp [g114, g119, g124] at r170
   refine zAA r170 (by simp) rfl ?_
   simp [g114, g119, g124]
   have r171 := zA9 fuel t1.S v117 q118
   try simp [g114, g119, g124] at r171
   refine zAA r171 (by simp) rfl ?_
   simp [g114, g119, g124]
   have r172 := zC5 fuel t1.Names v122 q123
   try simp [g114, g119, g124] at r172
   refine zAA r172 (by simp) rfl ?_
   simp [g114, g119, g124]
  refine spc h rfl (fun g129 h => ?_) fun g129 h => ?_
  ·refine cutA 223 0 [(2, .bool false)] [t1.d] <| zAB <| zAE <| zAE ?_
   obtain rfl := oi h
   simp
  refine zAF <| zAP <| zAM <| cutA 223 0 [(1, .mptr 0 0), (3, .int .i64 t1.L.length), (5, .int .i64 0)] [t1.d] <| zAU ?_
  obtain ⟨o132, l133, h⟩ := bs h
  refine zB2 (fun p : Nat × Nat => mkS 223 0 [(1, .mptr 0 0), (3, .int .i64 t1.L.length), (5, .int .i64 p.2)] [t1.d]) (fun p => zBm fuel t1 p.1 p.2 = some o132) (fun p => p.1) (fuel, 0) l133 (zBS (by simp)) ?_
  rintro ⟨k134, i130⟩ l133
  dsimp only at l133 ⊢
  cases k134 with
  | zero =>
   rw [zBm] at l133; cases l133
  | succ k135 =>
   rw [zBm] at l133
   refine zAM <| cutA 223 0 [(1, .mptr 0 0), (3, .int .i64 t1.L.length), (5, .int .i64 i130), (115, .bool (ltI ((i130 : Nat) : Int) (t1.L.length : Int)))] [t1.d] <| spc l133 rfl (fun g136 l133 => ?_) fun g136 l133 => ?_
   ·have c137 := ltT g136
    refine zCJ 0 4 rfl rfl rfl fun f138 => ?_
    rw [List.length_map] at f138
    refine zAF <| zAP <| zAM <| zAU <| zAM ?_
    obtain ⟨x139, q140, l133⟩ := bs l133
    refine cut 223 0 [(1, .mptr 0 0), (3, .int .i64 t1.L.length), (5, .int .i64 i130), (124, .bool (!(eqI x139.Op 45)))] [t1.d] (st (by simp [q140])) ?_
    rcases sp l133 with ⟨g141, l133⟩ | ⟨g141, l133⟩
    ·have g142 := notT g141
     have c143 := eqF g142
     refine zBE rfl g141 <| cutA 223 0 [(2, .bool false)] [t1.d] <| zAB <| zAE <| zAJ <| zAE ?_
     replace h := retL l133 h
     refine zAE <| zAJ <| zAE <| zAE ?_
     obtain rfl := oi h
     simp
    have g144 := notF g141
    have c145 := eqT g144
    refine zGH rfl g141 <| zAF <| zAP <| cutA 223 0 [(1, .mptr 0 0), (3, .int .i64 t1.L.length), (5, .int .i64 i130), (6, .int .i64 0)] [t1.d] <| zAU ?_
    obtain ⟨o148, l149, l133⟩ := bs l133
    refine zB2 (fun p : Nat × Nat => mkS 223 0 [(1, .mptr 0 0), (3, .int .i64 t1.L.length), (5, .int .i64 i130), (6, .int .i64 p.2)] [t1.d]) (fun p => zCI t1 i130 x139 p.1 p.2 = some o148) (fun p => p.1) (fuel, 0) l149 (zBS (by simp)) ?_
    rintro ⟨k150, j146⟩ l149
    dsimp only at l149 ⊢
    cases k150 with
    | zero =>
     rw [zCI] at l149; cases l149
    | succ k151 =>
     rw [zCI] at l149
     refine zAM <| cutA 223 0 [(1, .mptr 0 0), (3, .int .i64 t1.L.length), (5, .int .i64 i130), (6, .int .i64 j146), (127, .bool (ltI ((j146 : Nat) : Int) ((i130 : Nat) : Int)))] [t1.d] <| spc l149 rfl (fun g152 l149 => ?_) fun g152 l149 => ?_
     ·have c153 := ltT g152
      refine zAF <| zAP <| zAM <| zAU ?_
      obtain ⟨x154, q155, l149⟩ := bs l149
      refine cut 223 0 [(1, .mptr 0 0), (3, .int .i64 t1.L.length), (5, .int .i64 i130), (6, .int .i64 j146), (142, .bool (eqS x139.S x154.S))] [t1.d] ?_ ?_
      ·refine zAW [] mixed (n := 223) rfl (by decide) ?_
       simp [q140, q155]
      refine spc l149 rfl (fun g156 l149 => ?_) fun g156 l149 => ?_
      ·refine cutA 223 0 [(2, .bool false)] [t1.d] <| zAB <| zAJ <| zAE ?_
       replace l133 := retL l149 l133
       refine zAE <| zAJ <| zAJ <| zAE ?_
       replace h := retL l133 h
       refine zAE <| zAJ <| zAE <| zAE ?_
       obtain rfl := oi h
       simp
      refine zAF <| zCx <| zAP ?_
      have q157 : Rng .i64 (((j146 : Nat) : Int) + 1) := by simp only [Rng, inR]; omega
      try simp at q157
      refine last 223 0 [(1, .mptr 0 0), (3, .int .i64 t1.L.length), (5, .int .i64 i130), (6, .int .i64 ((j146 + 1 : Nat) : Int))] [t1.d] (st (by simp [q157])) fun zz hs => ?_
      exact ⟨(k151, j146 + 1), hs, l149, by simp⟩
     have c158 := ltF g152
     refine zBR <| zAc ?_
     rcases o148 with o148 | o147
     ·cases l149
     have q159 := Sum.inr.inj (Option.some.inj l149)
     replace l133 := zFp l133
     refine zAc <| zBQ <| zCx <| zBT (t := mkS 223 0 [(1, .mptr 0 0), (3, .int .i64 t1.L.length), (5, .int .i64 i130)] [t1.d]) ?_ (zBS (by simp))
     have q160 : Rng .i64 (((i130 : Nat) : Int) + 1) := by simp only [Rng, inR]; omega
     try simp at q160
     refine last 223 0 [(1, .mptr 0 0), (3, .int .i64 t1.L.length), (5, .int .i64 ((i130 + 1 : Nat) : Int))] [t1.d] (st (by simp [q160])) fun zz hs => ?_
     exact ⟨(k135, i130 + 1), hs, l133, by simp⟩
   have c161 := ltF g136
   refine zCJ 0 4 rfl rfl rfl fun f162 => ?_
   rw [List.length_map] at f162
   refine zBR <| zAc ?_
   rcases o132 with o132 | o131
   ·cases l133
   have q163 := Sum.inr.inj (Option.some.inj l133)
   replace h := zFp h
   refine zAc <| zBQ <| zBT (t := mkS 223 0 [] [t1.d]) ?_ (zBS (by simp))
   refine cutA 223 0 [(2, .bool true)] [t1.d] <| zAB <| zAE ?_
   obtain rfl := oi h
   simp
 refine zAF <| zAP <| zAM <| cutA 223 0 [(1, .mptr 0 0), (3, .int .i64 t1.L.length), (145, .bool (eqI t1.Op 45))] [t1.d] <| spc h rfl (fun g174 h => ?_) fun g174 h => ?_
 ·obtain ⟨b189, q190, h⟩ := bs h
  refine cut 223 0 [(2, .bool b189)] [t1.d] ?_ ?_
  ·obtain ⟨v176, q177, q190⟩ := bs q190
   rcases sp q190 with ⟨g178, q190⟩ | ⟨g178, q190⟩
   ·obtain ⟨v179, q180, q190⟩ := bs q190
    rcases sp q190 with ⟨g181, q190⟩ | ⟨g181, q190⟩
    ·rcases sp q190 with ⟨g182, q190⟩ | ⟨g182, q190⟩
     ·have c183 := leT g182
      refine zCJ 0 4 rfl rfl rfl fun f184 => ?_
      rw [List.length_map] at f184
      obtain ⟨v185, q186, q190⟩ := bs q190
      obtain rfl := oi q190
      refine st ?_
      simp [g178, g181, g182]
      have r191 := zAG t1 false true false v176 q177
      try simp [g178, g181, g182] at r191
      refine zAA r191 (by simp) rfl ?_
      simp [g178, g181, g182]
      have r192 := zA1 fuel t1.S v179 q180
      try simp [g178, g181, g182] at r192
      refine zAA r192 (by simp) rfl ?_
      simp [g178, g181, g182]
      have r193 := zCE fuel t1 0 (t1.L.length : Int) 1 v185 q186
      try simp [g178, g181, g182] at r193
      refine zAA r193 (by simp) rfl ?_
      simp [g178, g181, g182]
     have c187 := leF g182
     refine zCJ 0 4 rfl rfl rfl fun f188 => ?_
     rw [List.length_map] at f188
     obtain rfl := oi q190
     refine st ?_
     simp [g178, g181, g182]
     have r194 := zAG t1 false true false v176 q177
     try simp [g178, g181, g182] at r194
     refine zAA r194 (by simp) rfl ?_
     simp [g178, g181, g182]
     have r195 := zA1 fuel t1.S v179 q180
     try simp [g178, g181, g182] at r195
     refine zAA r195 (by simp) rfl ?_
     simp [g178, g181, g182]
    obtain rfl := oi q190
    refine st ?_
    simp [g178, g181]
    have r196 := zAG t1 false true false v176 q177
    try simp [g178, g181] at r196
    refine zAA r196 (by simp) rfl ?_
    simp [g178, g181]
    have r197 := zA1 fuel t1.S v179 q180
    try simp [g178, g181] at r197
    refine zAA r197 (by simp) rfl ?_
    simp [g178, g181]
   obtain rfl := oi q190
   refine st ?_
   simp [g178]
   have r198 := zAG t1 false true false v176 q177
   try simp [g178] at r198
   refine zAA r198 (by simp) rfl ?_
   simp [g178]
  refine zAB <| zAE ?_
  obtain rfl := oi h
  simp
 refine zAF <| zAP <| zAM <| cutA 223 0 [(1, .mptr 0 0), (3, .int .i64 t1.L.length), (164, .bool (eqI t1.Op 46))] [t1.d] <| spc h rfl (fun g200 h => ?_) fun g200 h => ?_
 ·obtain ⟨b210, q211, h⟩ := bs h
  refine cut 223 0 [(2, .bool b210)] [t1.d] ?_ ?_
  ·obtain ⟨v202, q203, q211⟩ := bs q211
   rcases sp q211 with ⟨g204, q211⟩ | ⟨g204, q211⟩
   ·obtain ⟨v205, q206, q211⟩ := bs q211
    rcases sp q211 with ⟨g207, q211⟩ | ⟨g207, q211⟩
    ·obtain ⟨v208, q209, q211⟩ := bs q211
     obtain rfl := oi q211
     refine st ?_
     simp [g204, g207]
     have r212 := zAG t1 false true false v202 q203
     try simp [g204, g207] at r212
     refine zAA r212 (by simp) rfl ?_
     simp [g204, g207]
     have r213 := zA1 fuel t1.S v205 q206
     try simp [g204, g207] at r213
     refine zAA r213 (by simp) rfl ?_
     simp [g204, g207]
     have r214 := zAt fuel t1 [7] v208 q209
     try simp [g204, g207] at r214
     refine zAA r214 (by simp) rfl ?_
     simp [g204, g207]
    obtain rfl := oi q211
    refine st ?_
    simp [g204, g207]
    have r215 := zAG t1 false true false v202 q203
    try simp [g204, g207] at r215
    refine zAA r215 (by simp) rfl ?_
    simp [g204, g207]
    have r216 := zA1 fuel t1.S v205 q206
    try simp [g204, g207] at r216
    refine zAA r216 (by simp) rfl ?_
    simp [g204, g207]
   obtain rfl := oi q211
   refine st ?_
   simp [g204]
   have r217 := zAG t1 false true false v202 q203
   try simp [g204] at r217
   refine zAA r217 (by simp) rfl ?_
   simp [g204]
  refine zAB <| zAE ?_
  obtain rfl := oi h
  simp
 refine zAF <| zAP <| zAM <| cutA 223 0 [(1, .mptr 0 0), (3, .int .i64 t1.L.length), (179, .bool (eqI t1.Op 47))] [t1.d] <| spc h rfl (fun g219 h => ?_) fun g219 h => ?_
 ·obtain ⟨b229, q230, h⟩ := bs h
  refine cut 223 0 [(2, .bool b229)] [t1.d] ?_ ?_
  ·obtain ⟨v221, q222, q230⟩ := bs q230
   rcases sp q230 with ⟨g223, q230⟩ | ⟨g223, q230⟩
   ·obtain ⟨v224, q225, q230⟩ := bs q230
    rcases sp q230 with ⟨g226, q230⟩ | ⟨g226, q230⟩
    ·obtain ⟨v227, q228, q230⟩ := bs q230
     obtain rfl := oi q230
     refine st ?_
     simp [g223, g226]
     have r231 := zAG t1 false true false v221 q222
     try simp [g223, g226] at r231
     refine zAA r231 (by simp) rfl ?_
     simp [g223, g226]
     have r232 := zA1 fuel t1.S v224 q225
     try simp [g223, g226] at r232
     refine zAA r232 (by simp) rfl ?_
     simp [g223, g226]
     have r233 := zAt fuel t1 [6] v227 q228
     try simp [g223, g226] at r233
     refine zAA r233 (by simp) rfl ?_
     simp [g223, g226]
    obtain rfl := oi q230
    refine st ?_
    simp [g223, g226]
    have r234 := zAG t1 false true false v221 q222
    try simp [g223, g226] at r234
    refine zAA r234 (by simp) rfl ?_
    simp [g223, g226]
    have r235 := zA1 fuel t1.S v224 q225
    try simp [g223, g226] at r235
    refine zAA r235 (by simp) rfl ?_
    simp [g223, g226]
   obtain rfl := oi q230
   refine st ?_
   simp [g223]
   have r236 := zAG t1 false true false v221 q222
   try simp [g223] at r236
   refine zAA r236 (by simp) rfl ?_
   simp [g223]
  refine zAB <| zAE ?_
  obtain rfl := oi h
  simp
 refine zAF <| zAP <| zAM <| cut 223 0 [(1, .mptr 0 0), (3, .int .i64 t1.L.length), (199, .bool ((eqI t1.Op 48) || (eqI t1.Op 49)))] [t1.d] ?_ ?_
 ·rcases tf (eqI t1.Op 48) with g238 | g238
  ·have c239 := eqT g238
   refine st ?_
   simp [g238]
  have c240 := eqF g238
  refine st ?_
  simp [g238]
 rcases sp h with ⟨g241, h⟩ | ⟨g241, h⟩
 ·refine zBE rfl g241 ?_
  obtain ⟨b248, q249, h⟩ := bs h
  refine cut 223 0 [(2, .bool b248)] [t1.d] ?_ ?_
  ·obtain ⟨v242, q243, q249⟩ := bs q249
   rcases sp q249 with ⟨g244, q249⟩ | ⟨g244, q249⟩
   ·obtain ⟨v245, q246, q249⟩ := bs q249
    rcases sp q249 with ⟨g247, q249⟩ | ⟨g247, q249⟩
    ·obtain rfl := oi q249
     refine st ?_
     simp [g244, g247]
     have r250 := zAG t1 false false true v242 q243
     try simp [g244, g247] at r250
     refine zAA r250 (by simp) rfl ?_
     simp [g244, g247]
     have r251 := zAx fuel t1.Names false v245 q246
     try simp [g244, g247] at r251
     refine zAA r251 (by simp) rfl ?_
     simp [g244, g247]
    obtain rfl := oi q249
    refine st ?_
    simp [g244, g247]
    have r252 := zAG t1 false false true v242 q243
    try simp [g244, g247] at r252
    refine zAA r252 (by simp) rfl ?_
    simp [g244, g247]
    have r253 := zAx fuel t1.Names false v245 q246
    try simp [g244, g247] at r253
    refine zAA r253 (by simp) rfl ?_
    simp [g244, g247]
   obtain rfl := oi q249
   refine st ?_
   simp [g244]
   have r254 := zAG t1 false false true v242 q243
   try simp [g244] at r254
   refine zAA r254 (by simp) rfl ?_
   simp [g244]
  refine zAB <| zAE ?_
  obtain rfl := oi h
  simp
 obtain ⟨g255, g256⟩ := orF g241
 have c257 := eqF g255
 have c258 := eqF g256
 refine zGH rfl g241 <| zAF <| zAP ?_
 obtain ⟨b271, q272, h⟩ := bs h
 refine cut 223 0 [(2, .bool b271)] [t1.d] ?_ ?_
 ·obtain ⟨v259, q260, q272⟩ := bs q272
  rcases sp q272 with ⟨g261, q272⟩ | ⟨g261, q272⟩
  ·obtain ⟨v262, q263, q272⟩ := bs q272
   rcases sp q272 with ⟨g264, q272⟩ | ⟨g264, q272⟩
   ·obtain ⟨l265, q266, q272⟩ := bs q272
    obtain ⟨q267, q268⟩ := zD6 q266
    obtain ⟨v269, q270, q272⟩ := bs q272
    obtain rfl := oi q272
    refine st ?_
    simp [g261, g264, q267, q268]
    have r273 := zAG t1 false true false v259 q260
    try simp [g261, g264, q267, q268] at r273
    refine zAA r273 (by simp) rfl ?_
    simp [g261, g264, q267, q268]
    have r274 := zA1 fuel t1.S v262 q263
    try simp [g261, g264, q267, q268] at r274
    refine zAA r274 (by simp) rfl ?_
    simp [g261, g264, q267, q268]
    have r275 := zAt fuel t1 l265 v269 q270
    try simp [g261, g264, q267, q268] at r275
    refine zAA r275 (by simp) rfl ?_
    simp [g261, g264, q267, q268]
   obtain rfl := oi q272
   refine st ?_
   simp [g261, g264]
   have r276 := zAG t1 false true false v259 q260
   try simp [g261, g264] at r276
   refine zAA r276 (by simp) rfl ?_
   simp [g261, g264]
   have r277 := zA1 fuel t1.S v262 q263
   try simp [g261, g264] at r277
   refine zAA r277 (by simp) rfl ?_
   simp [g261, g264]
  obtain rfl := oi q272
  refine st ?_
  simp [g261]
  have r278 := zAG t1 false true false v259 q260
  try simp [g261] at r278
  refine zAA r278 (by simp) rfl ?_
  simp [g261]
 refine zAB ?_
 obtain rfl := oi h
 simp
theorem zHY (fuel : Nat) (t1 : zJC) (r : Bool) (h : zBi fuel t1 = some r) : Pure Tryz.prog 123 [.agg t1.d] (.bool r) := by
 rw [zBi] at h
 refine zAO Tryz.func123 (by rfl) (by rfl) (by simp) (by simp) (by simp) <| cutA 182 0 [(1, .mptr 0 0)] [t1.d] <| cutA 182 0 [(1, .mptr 0 0), (3, .int .i64 t1.L.length)] [t1.d] <| zAM <| cutA 182 0 [(1, .mptr 0 0), (3, .int .i64 t1.L.length), (9, .bool (eqI t1.Op 61))] [t1.d] <| spc h rfl (fun g2 h => ?_) fun g2 h => ?_
 ·obtain ⟨b12, q13, h⟩ := bs h
  refine cut 182 0 [(2, .bool b12)] [t1.d] ?_ ?_
  ·obtain ⟨v4, q5, q13⟩ := bs q13
   rcases sp q13 with ⟨g6, q13⟩ | ⟨g6, q13⟩
   ·obtain ⟨v7, q8, q13⟩ := bs q13
    rcases sp q13 with ⟨g9, q13⟩ | ⟨g9, q13⟩
    ·obtain ⟨v10, q11, q13⟩ := bs q13
     obtain rfl := oi q13
     refine st ?_
     simp [g6, g9]
     have r14 := zAG t1 false true false v4 q5
     try simp [g6, g9] at r14
     refine zAA r14 (by simp) rfl ?_
     simp [g6, g9]
     have r15 := zA9 fuel t1.S v7 q8
     try simp [g6, g9] at r15
     refine zAA r15 (by simp) rfl ?_
     simp [g6, g9]
     have r16 := zAt fuel t1 [1] v10 q11
     try simp [g6, g9] at r16
     refine zAA r16 (by simp) rfl ?_
     simp [g6, g9]
    obtain rfl := oi q13
    refine st ?_
    simp [g6, g9]
    have r17 := zAG t1 false true false v4 q5
    try simp [g6, g9] at r17
    refine zAA r17 (by simp) rfl ?_
    simp [g6, g9]
    have r18 := zA9 fuel t1.S v7 q8
    try simp [g6, g9] at r18
    refine zAA r18 (by simp) rfl ?_
    simp [g6, g9]
   obtain rfl := oi q13
   refine st ?_
   simp [g6]
   have r19 := zAG t1 false true false v4 q5
   try simp [g6] at r19
   refine zAA r19 (by simp) rfl ?_
   simp [g6]
  refine zAB <| zAE ?_
  obtain rfl := oi h
  simp
 refine zAF <| zAP <| zAM <| cutA 182 0 [(1, .mptr 0 0), (3, .int .i64 t1.L.length), (24, .bool (eqI t1.Op 62))] [t1.d] <| spc h rfl (fun g21 h => ?_) fun g21 h => ?_
 ·obtain ⟨b32, q33, h⟩ := bs h
  refine cut 182 0 [(2, .bool b32)] [t1.d] ?_ ?_
  ·obtain ⟨v23, q24, q33⟩ := bs q33
   rcases sp q33 with ⟨g25, q33⟩ | ⟨g25, q33⟩
   ·obtain ⟨v26, q27, q33⟩ := bs q33
    rcases sp q33 with ⟨g28, q33⟩ | ⟨g28, q33⟩
    ·obtain ⟨v29, q30, q33⟩ := bs q33
     rcases sp q33 with ⟨g31, q33⟩ | ⟨g31, q33⟩
     ·obtain rfl := oi q33
      refine st ?_
      simp [g25, g28, g31]
      have r34 := zAG t1 false true true v23 q24
      try simp [g25, g28, g31] at r34
      refine zAA r34 (by simp) rfl ?_
      simp [g25, g28, g31]
      have r35 := zA9 fuel t1.S v26 q27
      try simp [g25, g28, g31] at r35
      refine zAA r35 (by simp) rfl ?_
      simp [g25, g28, g31]
      have r36 := zC5 fuel t1.Names v29 q30
      try simp [g25, g28, g31] at r36
      refine zAA r36 (by simp) rfl ?_
      simp [g25, g28, g31]
     obtain rfl := oi q33
     refine st ?_
     simp [g25, g28, g31]
     have r37 := zAG t1 false true true v23 q24
     try simp [g25, g28, g31] at r37
     refine zAA r37 (by simp) rfl ?_
     simp [g25, g28, g31]
     have r38 := zA9 fuel t1.S v26 q27
     try simp [g25, g28, g31] at r38
     refine zAA r38 (by simp) rfl ?_
     simp [g25, g28, g31]
     have r39 := zC5 fuel t1.Names v29 q30
     try simp [g25, g28, g31] at r39
     refine zAA r39 (by simp) rfl ?_
     simp [g25, g28, g31]
    obtain rfl := oi q33
    refine st ?_
    simp [g25, g28]
    have r40 := zAG t1 false true true v23 q24
    try simp [g25, g28] at r40
    refine zAA r40 (by simp) rfl ?_
    simp [g25, g28]
    have r41 := zA9 fuel t1.S v26 q27
    try simp [g25, g28] at r41
    refine zAA r41 (by simp) rfl ?_
    simp [g25, g28]
   obtain rfl := oi q33
   refine st ?_
   simp [g25]
   have r42 := zAG t1 false true true v23 q24
   try simp [g25] at r42
   refine zAA r42 (by simp) rfl ?_
   simp [g25]
  refine zAB <| zAE ?_
  obtain rfl := oi h
  simp
 refine zAF <| zAP <| zAM <| cut 182 0 [(1, .mptr 0 0), (3, .int .i64 t1.L.length), (48, .bool ((eqI t1.Op 63) || (eqI t1.Op 64)))] [t1.d] ?_ ?_
 ·rcases tf (eqI t1.Op 63) with g44 | g44
  ·have c45 := eqT g44
   refine st ?_
   simp [g44]
  have c46 := eqF g44
  refine st ?_
  simp [g44]
 rcases sp h with ⟨g47, h⟩ | ⟨g47, h⟩
 ·refine zBE rfl g47 ?_
  obtain ⟨b56, q57, h⟩ := bs h
  refine cut 182 0 [(2, .bool b56)] [t1.d] ?_ ?_
  ·obtain ⟨v48, q49, q57⟩ := bs q57
   rcases sp q57 with ⟨g50, q57⟩ | ⟨g50, q57⟩
   ·obtain ⟨v51, q52, q57⟩ := bs q57
    rcases sp q57 with ⟨g53, q57⟩ | ⟨g53, q57⟩
    ·obtain ⟨v54, q55, q57⟩ := bs q57
     obtain rfl := oi q57
     refine st ?_
     simp [g50, g53]
     have r58 := zAG t1 false true false v48 q49
     try simp [g50, g53] at r58
     refine zAA r58 (by simp) rfl ?_
     simp [g50, g53]
     have r59 := zA1 fuel t1.S v51 q52
     try simp [g50, g53] at r59
     refine zAA r59 (by simp) rfl ?_
     simp [g50, g53]
     have r60 := zAt fuel t1 [6] v54 q55
     try simp [g50, g53] at r60
     refine zAA r60 (by simp) rfl ?_
     simp [g50, g53]
    obtain rfl := oi q57
    refine st ?_
    simp [g50, g53]
    have r61 := zAG t1 false true false v48 q49
    try simp [g50, g53] at r61
    refine zAA r61 (by simp) rfl ?_
    simp [g50, g53]
    have r62 := zA1 fuel t1.S v51 q52
    try simp [g50, g53] at r62
    refine zAA r62 (by simp) rfl ?_
    simp [g50, g53]
   obtain rfl := oi q57
   refine st ?_
   simp [g50]
   have r63 := zAG t1 false true false v48 q49
   try simp [g50] at r63
   refine zAA r63 (by simp) rfl ?_
   simp [g50]
  refine zAB <| zAE ?_
  obtain rfl := oi h
  simp
 obtain ⟨g64, g65⟩ := orF g47
 have c66 := eqF g64
 have c67 := eqF g65
 refine zGH rfl g47 <| zAF <| zAP <| zAM <| cutA 182 0 [(1, .mptr 0 0), (3, .int .i64 t1.L.length), (63, .bool (eqI t1.Op 65))] [t1.d] <| spc h rfl (fun g68 h => ?_) fun g68 h => ?_
 ·obtain ⟨b75, q76, h⟩ := bs h
  refine cut 182 0 [(2, .bool b75)] [t1.d] ?_ ?_
  ·obtain ⟨v70, q71, q76⟩ := bs q76
   rcases sp q76 with ⟨g72, q76⟩ | ⟨g72, q76⟩
   ·obtain ⟨v73, q74, q76⟩ := bs q76
    obtain rfl := oi q76
    refine st ?_
    simp [g72]
    have r77 := zAG t1 false false false v70 q71
    try simp [g72] at r77
    refine zAA r77 (by simp) rfl ?_
    simp [g72]
    have r78 := zAt fuel t1 [6] v73 q74
    try simp [g72] at r78
    refine zAA r78 (by simp) rfl ?_
    simp [g72]
   obtain rfl := oi q76
   refine st ?_
   simp [g72]
   have r79 := zAG t1 false false false v70 q71
   try simp [g72] at r79
   refine zAA r79 (by simp) rfl ?_
   simp [g72]
  refine zAB <| zAE ?_
  obtain rfl := oi h
  simp
 refine zAF <| zAP <| zAM <| cutA 182 0 [(1, .mptr 0 0), (3, .int .i64 t1.L.length), (73, .bool (eqI t1.Op 66))] [t1.d] <| spc h rfl (fun g81 h => ?_) fun g81 h => ?_
 ·obtain ⟨b97, q98, h⟩ := bs h
  refine cut 182 0 [(2, .bool b97)] [t1.d] ?_ ?_
  ·obtain ⟨v83, q84, q98⟩ := bs q98
   rcases sp q98 with ⟨g85, q98⟩ | ⟨g85, q98⟩
   ·obtain ⟨v86, q87, q98⟩ := bs q98
    rcases sp q98 with ⟨g88, q98⟩ | ⟨g88, q98⟩
    ·rcases sp q98 with ⟨g89, q98⟩ | ⟨g89, q98⟩
     ·have c90 := eqT g89
      obtain ⟨x91, q92, q98⟩ := bs q98
      rcases sp q98 with ⟨g93, q98⟩ | ⟨g93, q98⟩
      ·have c94 := eqT g93
       obtain rfl := oi q98
       refine st ?_
       simp [g85, g88, g89, q92, g93]
       have r99 := zAG t1 false false true v83 q84
       try simp [g85, g88, g89, q92, g93] at r99
       refine zAA r99 (by simp) rfl ?_
       simp [g85, g88, g89, q92, g93]
       have r100 := zAx fuel t1.Names true v86 q87
       try simp [g85, g88, g89, q92, g93] at r100
       refine zAA r100 (by simp) rfl ?_
       simp [g85, g88, g89, q92, g93]
      have c95 := eqF g93
      obtain rfl := oi q98
      refine st ?_
      simp [g85, g88, g89, q92, g93]
      have r101 := zAG t1 false false true v83 q84
      try simp [g85, g88, g89, q92, g93] at r101
      refine zAA r101 (by simp) rfl ?_
      simp [g85, g88, g89, q92, g93]
      have r102 := zAx fuel t1.Names true v86 q87
      try simp [g85, g88, g89, q92, g93] at r102
      refine zAA r102 (by simp) rfl ?_
      simp [g85, g88, g89, q92, g93]
     have c96 := eqF g89
     obtain rfl := oi q98
     refine st ?_
     simp [g85, g88, g89]
     have r103 := zAG t1 false false true v83 q84
     try simp [g85, g88, g89] at r103
     refine zAA r103 (by simp) rfl ?_
     simp [g85, g88, g89]
     have r104 := zAx fuel t1.Names true v86 q87
     try simp [g85, g88, g89] at r104
     refine zAA r104 (by simp) rfl ?_
     simp [g85, g88, g89]
    obtain rfl := oi q98
    refine st ?_
    simp [g85, g88]
    have r105 := zAG t1 false false true v83 q84
    try simp [g85, g88] at r105
    refine zAA r105 (by simp) rfl ?_
    simp [g85, g88]
    have r106 := zAx fuel t1.Names true v86 q87
    try simp [g85, g88] at r106
    refine zAA r106 (by simp) rfl ?_
    simp [g85, g88]
   obtain rfl := oi q98
   refine st ?_
   simp [g85]
   have r107 := zAG t1 false false true v83 q84
   try simp [g85] at r107
   refine zAA r107 (by simp) rfl ?_
   simp [g85]
  refine zAB <| zAE ?_
  obtain rfl := oi h
  simp
 refine zAF <| zAP <| zAM <| cutA 182 0 [(1, .mptr 0 0), (3, .int .i64 t1.L.length), (104, .bool (eqI t1.Op 71))] [t1.d] <| spc h rfl (fun g109 h => ?_) fun g109 h => ?_
 ·obtain ⟨b116, q117, h⟩ := bs h
  refine cut 182 0 [(2, .bool b116)] [t1.d] ?_ ?_
  ·obtain ⟨v111, q112, q117⟩ := bs q117
   rcases sp q117 with ⟨g113, q117⟩ | ⟨g113, q117⟩
   ·obtain ⟨v114, q115, q117⟩ := bs q117
    obtain rfl := oi q117
    refine st ?_
    simp [g113]
    have r118 := zAG t1 false false false v111 q112
    try simp [g113] at r118
    refine zAA r118 (by simp) rfl ?_
    simp [g113]
    have r119 := zCE fuel t1 0 (t1.L.length : Int) 5 v114 q115
    try simp [g113] at r119
    refine zAA r119 (by simp) rfl ?_
    simp [g113]
   obtain rfl := oi q117
   refine st ?_
   simp [g113]
   have r120 := zAG t1 false false false v111 q112
   try simp [g113] at r120
   refine zAA r120 (by simp) rfl ?_
   simp [g113]
  refine zAB <| zAE ?_
  obtain rfl := oi h
  simp
 refine zAF <| zAP <| zAM <| cutA 182 0 [(1, .mptr 0 0), (3, .int .i64 t1.L.length), (114, .bool (eqI t1.Op 72))] [t1.d] <| spc h rfl (fun g122 h => ?_) fun g122 h => ?_
 ·obtain ⟨b130, q131, h⟩ := bs h
  refine cut 182 0 [(2, .bool b130)] [t1.d] ?_ ?_
  ·obtain ⟨v124, q125, q131⟩ := bs q131
   rcases sp q131 with ⟨g126, q131⟩ | ⟨g126, q131⟩
   ·obtain ⟨v127, q128, q131⟩ := bs q131
    rcases sp q131 with ⟨g129, q131⟩ | ⟨g129, q131⟩
    ·obtain rfl := oi q131
     refine st ?_
     simp [g126, g129]
     have r132 := zAG t1 false false true v124 q125
     try simp [g126, g129] at r132
     refine zAA r132 (by simp) rfl ?_
     simp [g126, g129]
     have r133 := zAx fuel t1.Names false v127 q128
     try simp [g126, g129] at r133
     refine zAA r133 (by simp) rfl ?_
     simp [g126, g129]
    obtain rfl := oi q131
    refine st ?_
    simp [g126, g129]
    have r134 := zAG t1 false false true v124 q125
    try simp [g126, g129] at r134
    refine zAA r134 (by simp) rfl ?_
    simp [g126, g129]
    have r135 := zAx fuel t1.Names false v127 q128
    try simp [g126, g129] at r135
    refine zAA r135 (by simp) rfl ?_
    simp [g126, g129]
   obtain rfl := oi q131
   refine st ?_
   simp [g126]
   have r136 := zAG t1 false false true v124 q125
   try simp [g126] at r136
   refine zAA r136 (by simp) rfl ?_
   simp [g126]
  refine zAB <| zAE ?_
  obtain rfl := oi h
  simp
 refine zAF <| zAP <| zAM <| cutA 182 0 [(1, .mptr 0 0), (3, .int .i64 t1.L.length), (128, .bool (eqI t1.Op 73))] [t1.d] <| spc h rfl (fun g138 h => ?_) fun g138 h => ?_
 ·obtain ⟨b167, q168, h⟩ := bs h
  refine cut 182 0 [(2, .bool b167)] [t1.d] ?_ ?_
  ·obtain ⟨v140, q141, q168⟩ := bs q168
   rcases sp q168 with ⟨g142, q168⟩ | ⟨g142, q168⟩
   ·rcases sp q168 with ⟨g143, q168⟩ | ⟨g143, q168⟩
    ·have c144 := eqT g143
     obtain ⟨v145, q146, q168⟩ := bs q168
     rcases sp q168 with ⟨g147, q168⟩ | ⟨g147, q168⟩
     ·obtain ⟨l148, q149, q168⟩ := bs q168
      obtain ⟨q150, q151⟩ := zD6 q149
      obtain ⟨v152, q153, q168⟩ := bs q168
      obtain rfl := oi q168
      refine st ?_
      simp [g142, g143, g147, q150, q151]
      have r169 := zAG t1 true true false v140 q141
      try simp [g142, g143, g147, q150, q151] at r169
      refine zAA r169 (by simp) rfl ?_
      simp [g142, g143, g147, q150, q151]
      have r170 := zA1 fuel t1.S v145 q146
      try simp [g142, g143, g147, q150, q151] at r170
      refine zAA r170 (by simp) rfl ?_
      simp [g142, g143, g147, q150, q151]
      have r171 := zAt fuel t1 l148 v152 q153
      try simp [g142, g143, g147, q150, q151] at r171
      refine zAA r171 (by simp) rfl ?_
      simp [g142, g143, g147, q150, q151]
     obtain rfl := oi q168
     refine st ?_
     simp [g142, g143, g147]
     have r172 := zAG t1 true true false v140 q141
     try simp [g142, g143, g147] at r172
     refine zAA r172 (by simp) rfl ?_
     simp [g142, g143, g147]
     have r173 := zA1 fuel t1.S v145 q146
     try simp [g142, g143, g147] at r173
     refine zAA r173 (by simp) rfl ?_
     simp [g142, g143, g147]
    have c154 := eqF g143
    rcases sp q168 with ⟨g155, q168⟩ | ⟨g155, q168⟩
    ·have c156 := eqT g155
     obtain ⟨v157, q158, q168⟩ := bs q168
     rcases sp q168 with ⟨g159, q168⟩ | ⟨g159, q168⟩
     ·obtain ⟨l160, q161, q168⟩ := bs q168
      obtain ⟨q162, q163⟩ := zD6 q161
      obtain ⟨v164, q165, q168⟩ := bs q168
      obtain rfl := oi q168
      refine st ?_
      simp [g142, g143, g155, g159, q162, q163]
      have r174 := zAG t1 true true false v140 q141
      try simp [g142, g143, g155, g159, q162, q163] at r174
      refine zAA r174 (by simp) rfl ?_
      simp [g142, g143, g155, g159, q162, q163]
      have r175 := zA1 fuel t1.S v157 q158
      try simp [g142, g143, g155, g159, q162, q163] at r175
      refine zAA r175 (by simp) rfl ?_
      simp [g142, g143, g155, g159, q162, q163]
      have r176 := zAt fuel t1 l160 v164 q165
      try simp [g142, g143, g155, g159, q162, q163] at r176
      refine zAA r176 (by simp) rfl ?_
      simp [g142, g143, g155, g159, q162, q163]
     obtain rfl := oi q168
     refine st ?_
     simp [g142, g143, g155, g159]
     have r177 := zAG t1 true true false v140 q141
     try simp [g142, g143, g155, g159] at r177
     refine zAA r177 (by simp) rfl ?_
     simp [g142, g143, g155, g159]
     have r178 := zA1 fuel t1.S v157 q158
     try simp [g142, g143, g155, g159] at r178
     refine zAA r178 (by simp) rfl ?_
     simp [g142, g143, g155, g159]
    have c166 := eqF g155
    obtain rfl := oi q168
    refine st ?_
    simp [g142, g143, g155]
    have r179 := zAG t1 true true false v140 q141
    try simp [g142, g143, g155] at r179
    refine zAA r179 (by simp) rfl ?_
    simp [g142, g143, g155]
   obtain rfl := oi q168
   refine st ?_
   simp [g142]
   have r180 := zAG t1 true true false v140 q141
   try simp [g142] at r180
   refine zAA r180 (by simp) rfl ?_
   simp [g142]
  refine zAB <| zAE ?_
  obtain rfl := oi h
  simp
 refine zAF <| zAP ?_
 obtain ⟨b199, q200, h⟩ := bs h
 refine cut 182 0 [(2, .bool b199)] [t1.d] ?_ ?_
 ·obtain ⟨v182, q183, q200⟩ := bs q200
  rcases sp q200 with ⟨g184, q200⟩ | ⟨g184, q200⟩
  ·obtain ⟨v185, q186, q200⟩ := bs q200
   rcases sp q200 with ⟨g187, q200⟩ | ⟨g187, q200⟩
   ·rcases sp q200 with ⟨g188, q200⟩ | ⟨g188, q200⟩
    ·have c189 := eqT g188
     obtain ⟨v190, q191, q200⟩ := bs q200
     rcases sp q200 with ⟨g192, q200⟩ | ⟨g192, q200⟩
     ·obtain ⟨x193, q194, q200⟩ := bs q200
      rcases sp q200 with ⟨g195, q200⟩ | ⟨g195, q200⟩
      ·have c196 := eqT g195
       obtain rfl := oi q200
       refine st ?_
       simp [g184, g187, g188, g192, q194, g195]
       have r201 := zAG t1 false false true v182 q183
       try simp [g184, g187, g188, g192, q194, g195] at r201
       refine zAA r201 (by simp) rfl ?_
       simp [g184, g187, g188, g192, q194, g195]
       have r202 := zAx fuel t1.Names true v185 q186
       try simp [g184, g187, g188, g192, q194, g195] at r202
       refine zAA r202 (by simp) rfl ?_
       simp [g184, g187, g188, g192, q194, g195]
       have r203 := zCE fuel t1 0 1 6 v190 q191
       try simp [g184, g187, g188, g192, q194, g195] at r203
       refine zAA r203 (by simp) rfl ?_
       simp [g184, g187, g188, g192, q194, g195]
      have c197 := eqF g195
      obtain rfl := oi q200
      refine st ?_
      simp [g184, g187, g188, g192, q194, g195]
      have r204 := zAG t1 false false true v182 q183
      try simp [g184, g187, g188, g192, q194, g195] at r204
      refine zAA r204 (by simp) rfl ?_
      simp [g184, g187, g188, g192, q194, g195]
      have r205 := zAx fuel t1.Names true v185 q186
      try simp [g184, g187, g188, g192, q194, g195] at r205
      refine zAA r205 (by simp) rfl ?_
      simp [g184, g187, g188, g192, q194, g195]
      have r206 := zCE fuel t1 0 1 6 v190 q191
      try simp [g184, g187, g188, g192, q194, g195] at r206
      refine zAA r206 (by simp) rfl ?_
      simp [g184, g187, g188, g192, q194, g195]
     obtain rfl := oi q200
     refine st ?_
     simp [g184, g187, g188, g192]
     have r207 := zAG t1 false false true v182 q183
     try simp [g184, g187, g188, g192] at r207
     refine zAA r207 (by simp) rfl ?_
     simp [g184, g187, g188, g192]
     have r208 := zAx fuel t1.Names true v185 q186
     try simp [g184, g187, g188, g192] at r208
     refine zAA r208 (by simp) rfl ?_
     simp [g184, g187, g188, g192]
     have r209 := zCE fuel t1 0 1 6 v190 q191
     try simp [g184, g187, g188, g192] at r209
     refine zAA r209 (by simp) rfl ?_
     simp [g184, g187, g188, g192]
    have c198 := eqF g188
    obtain rfl := oi q200
    refine st ?_
    simp [g184, g187, g188]
    have r210 := zAG t1 false false true v182 q183
    try simp [g184, g187, g188] at r210
    refine zAA r210 (by simp) rfl ?_
    simp [g184, g187, g188]
    have r211 := zAx fuel t1.Names true v185 q186
    try simp [g184, g187, g188] at r211
    refine zAA r211 (by simp) rfl ?_
    simp [g184, g187, g188]
   obtain rfl := oi q200
   refine st ?_
   simp [g184, g187]
   have r212 := zAG t1 false false true v182 q183
   try simp [g184, g187] at r212
   refine zAA r212 (by simp) rfl ?_
   simp [g184, g187]
   have r213 := zAx fuel t1.Names true v185 q186
   try simp [g184, g187] at r213
   refine zAA r213 (by simp) rfl ?_
   simp [g184, g187]
  obtain rfl := oi q200
  refine st ?_
  simp [g184]
  have r214 := zAG t1 false false true v182 q183
  try simp [g184] at r214
  refine zAA r214 (by simp) rfl ?_
  simp [g184]
 refine zAB ?_
 obtain rfl := oi h
 simp
end Go.Proofs.YtlhikhaailhoaaaGreatDoor
