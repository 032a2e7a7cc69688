/- For every input the law VerifyDead returns true. Part 9 of 13. No condition. -/
import Derived.Test.YthbjlmoaceaeeaaVFh
set_option linter.unusedVariables false
set_option linter.unusedSimpArgs false
set_option maxRecDepth 100000
set_option maxHeartbeats 1000000
namespace Go.Proofs.Ythbjlmoaceaeeaa
open Go Go.Abs
theorem law48_awake_ok (fuel : Nat) (r : Bool) (h : M.law48_awake fuel = some r) : Pure Try.prog 13 [] (.bool r) := by
  rw [M.law48_awake] at h
  refine pure_of_body Try.func13 (by rfl) (by rfl) (by simp) (by simp) (by simp) ?_
  refine cut 41 0 [] [] ?_ ?_
  · refine st ?_
    simp
  obtain ⟨v1, q2, h⟩ := bs h
  refine cut 41 0 [(1, .mptr 0 0)] [(Api.Program.c v1)] ?_ ?_
  · refine st ?_
    simp
    have r48 := law48_one_ok 1 1 [(Api.Instr.mk 1 7 0), (Api.Instr.mk 9 0 0)] v1 q2
    try simp [] at r48
    refine callPure r48 (by simp) rfl ?_
    simp
  obtain ⟨v3, q4, h⟩ := bs h
  refine cut 41 0 [(1, .mptr 0 0), (2, .sl (v3.1.map (cI .i64))), (3, .int .i64 v3.2)] [(Api.Program.c v1)] ?_ ?_
  · refine st ?_
    simp
    have r47 := verify_Depths_ok fuel v1 0 v3 q4
    try simp [] at r47
    refine callPure r47 (by simp) rfl ?_
    simp
  obtain ⟨b31, q32, h⟩ := bs h
  refine cut 41 0 [(0, .bool b31)] [(Api.Program.c v1)] ?_ ?_
  · obtain ⟨v5, q6, q32⟩ := bs q32
    rcases sp q32 with ⟨g7, q32⟩ | ⟨g7, q32⟩
    · have c8 := eqT g7
      rcases sp q32 with ⟨g9, q32⟩ | ⟨g9, q32⟩
      · have c10 := eqT g9
        obtain ⟨l11, q12, q32⟩ := bs q32
        obtain ⟨q13, q14⟩ := lit_ok q12
        obtain ⟨v15, q16, q32⟩ := bs q32
        rcases sp q32 with ⟨g17, q32⟩ | ⟨g17, q32⟩
        · obtain ⟨v18, q19, q32⟩ := bs q32
          obtain ⟨v20, q21, q32⟩ := bs q32
          rcases sp q32 with ⟨g22, q32⟩ | ⟨g22, q32⟩
          · have c23 := eqT g22
            obtain ⟨v24, q25, q32⟩ := bs q32
            obtain ⟨v26, q27, q32⟩ := bs q32
            obtain rfl := oi q32
            refine st ?_
            simp [g7, g9, q13, q14, g17, g22]
            have r33 := verify_Check_ok fuel v1 v5 q6
            try simp [g7, g9, q13, q14, g17, g22] at r33
            refine callPure r33 (by simp) rfl ?_
            simp [g7, g9, q13, q14, g17, g22]
            have r34 := slices_Equal_int_ok fuel v3.1 l11 v15 q16
            try simp [g7, g9, q13, q14, g17, g22] at r34
            refine callPure r34 (by simp) rfl ?_
            simp [g7, g9, q13, q14, g17, g22]
            have r35 := law48_one_ok 1 1 [(Api.Instr.mk 1 7 0), (Api.Instr.mk 15 1 0)] v18 q19
            try simp [g7, g9, q13, q14, g17, g22] at r35
            refine callPure r35 (by simp) rfl ?_
            simp [g7, g9, q13, q14, g17, g22]
            have r36 := verify_Check_ok fuel v18 v20 q21
            try simp [g7, g9, q13, q14, g17, g22] at r36
            refine callPure r36 (by simp) rfl ?_
            simp [g7, g9, q13, q14, g17, g22]
            have r37 := law48_one_ok 2 1 [(Api.Instr.mk 3 1 0), (Api.Instr.mk 9 0 0)] v24 q25
            try simp [g7, g9, q13, q14, g17, g22] at r37
            refine callPure r37 (by simp) rfl ?_
            simp [g7, g9, q13, q14, g17, g22]
            have r38 := verify_Check_ok fuel v24 v26 q27
            try simp [g7, g9, q13, q14, g17, g22] at r38
            refine callPure r38 (by simp) rfl ?_
            simp [g7, g9, q13, q14, g17, g22]
          have c28 := eqF g22
          obtain rfl := oi q32
          refine st ?_
          simp [g7, g9, q13, q14, g17, g22]
          have r39 := verify_Check_ok fuel v1 v5 q6
          try simp [g7, g9, q13, q14, g17, g22] at r39
          refine callPure r39 (by simp) rfl ?_
          simp [g7, g9, q13, q14, g17, g22]
          have r40 := slices_Equal_int_ok fuel v3.1 l11 v15 q16
          try simp [g7, g9, q13, q14, g17, g22] at r40
          refine callPure r40 (by simp) rfl ?_
          simp [g7, g9, q13, q14, g17, g22]
          have r41 := law48_one_ok 1 1 [(Api.Instr.mk 1 7 0), (Api.Instr.mk 15 1 0)] v18 q19
          try simp [g7, g9, q13, q14, g17, g22] at r41
          refine callPure r41 (by simp) rfl ?_
          simp [g7, g9, q13, q14, g17, g22]
          have r42 := verify_Check_ok fuel v18 v20 q21
          try simp [g7, g9, q13, q14, g17, g22] at r42
          refine callPure r42 (by simp) rfl ?_
          simp [g7, g9, q13, q14, g17, g22]
        obtain rfl := oi q32
        refine st ?_
        simp [g7, g9, q13, q14, g17]
        have r43 := verify_Check_ok fuel v1 v5 q6
        try simp [g7, g9, q13, q14, g17] at r43
        refine callPure r43 (by simp) rfl ?_
        simp [g7, g9, q13, q14, g17]
        have r44 := slices_Equal_int_ok fuel v3.1 l11 v15 q16
        try simp [g7, g9, q13, q14, g17] at r44
        refine callPure r44 (by simp) rfl ?_
        simp [g7, g9, q13, q14, g17]
      have c29 := eqF g9
      obtain rfl := oi q32
      refine st ?_
      simp [g7, g9]
      have r45 := verify_Check_ok fuel v1 v5 q6
      try simp [g7, g9] at r45
      refine callPure r45 (by simp) rfl ?_
      simp [g7, g9]
    have c30 := eqF g7
    obtain rfl := oi q32
    refine st ?_
    simp [g7]
    have r46 := verify_Check_ok fuel v1 v5 q6
    try simp [g7] at r46
    refine callPure r46 (by simp) rfl ?_
    simp [g7]
  refine awp_ret ?_
  obtain rfl := oi h
  simp
end Go.Proofs.Ythbjlmoaceaeeaa
set_option linter.unusedVariables false
set_option linter.unusedSimpArgs false
set_option maxRecDepth 100000
set_option maxHeartbeats 1000000
namespace Go.Proofs.Ythbjlmoaceaeeaa
open Go Go.Abs
theorem law48_big_1_ok (s1 : (List UInt8)) (r : Bool) (h : M.law48_big_1 s1 = some r) : Pure Try.prog 47 [.str s1] (.bool r) := by
  rw [M.law48_big_1] at h
  refine pure_of_body Try.func47 (by rfl) (by rfl) (by simp) (by simp) (by simp) ?_
  refine cut 6 0 [(0, .str s1)] [] ?_ ?_
  · refine st ?_
    simp
  refine cut 6 0 [(2, .bool (ltI 1000 (s1.length : Int)))] [] ?_ ?_
  · refine st ?_
    simp
  refine awp_ret ?_
  obtain rfl := oi h
  simp
end Go.Proofs.Ythbjlmoaceaeeaa
set_option linter.unusedVariables false
set_option linter.unusedSimpArgs false
set_option maxRecDepth 100000
set_option maxHeartbeats 1000000
namespace Go.Proofs.Ythbjlmoaceaeeaa
open Go Go.Abs
theorem slices_IndexFunc_string_big_1_ok (fuel : Nat) (s1 : (List (List UInt8))) (r : Int) (h : M.slices_IndexFunc_string_big_1 fuel s1 = some r) : Pure Try.prog 84 [.sl (s1.map cS), .fn (.func 47) [] []] (.int .i64 r) := by
  rw [M.slices_IndexFunc_string_big_1] at h
  refine pure_of_body Try.func84 (by rfl) (by rfl) (by simp) (by simp) (by simp) ?_
  refine cut 19 0 [(0, .sl (s1.map cS)), (1, .fn (.func 47) [] [])] [] ?_ ?_
  · refine st ?_
    simp
  refine awp_seq ?_
  refine cut 19 0 [(0, .sl (s1.map cS)), (1, .fn (.func 47) [] []), (7, .int .i64 (s1.length : Int)), (8, .int .i64 0)] [] ?_ ?_
  · refine st ?_
    simp
  refine awp_block ?_
  obtain ⟨o4, l5, h⟩ := bs h
  refine awp_inv (fun p : Nat × Nat => mkS 19 0 [(0, .sl (s1.map cS)), (1, .fn (.func 47) [] []), (7, .int .i64 (s1.length : Int)), (8, .int .i64 ((p.2 : Nat) : Int))] []) (fun p => M.slices_IndexFunc_string_big_1_l1 s1 p.1 p.2 = some o4) (fun p => p.1) (fuel, 0) l5 (le_mkS (by simp)) ?_
  rintro ⟨k6, i2⟩ l5
  try dsimp only at l5 ⊢
  cases k6 with
  | zero =>
    rw [M.slices_IndexFunc_string_big_1_l1] at l5; cases l5
  | succ k7 =>
    rw [M.slices_IndexFunc_string_big_1_l1] at l5
    refine cut 19 0 [(0, .sl (s1.map cS)), (1, .fn (.func 47) [] []), (7, .int .i64 (s1.length : Int)), (8, .int .i64 ((i2 : Nat) : Int)), (9, .bool (ltI ((i2 : Nat) : Int) (s1.length : Int)))] [] ?_ ?_
    · refine st ?_
      simp
    refine awp_seq ?_
    rcases sp l5 with ⟨g8, l5⟩ | ⟨g8, l5⟩
    · have c9 := ltT g8
      refine condT rfl g8 ?_
      refine factL 0 rfl fun f10 => ?_
      rw [List.length_map] at f10
      refine awp_skip ?_
      refine seq_eq ?_
      refine awp_seq ?_
      refine awp_block ?_
      refine cut 19 0 [(0, .sl (s1.map cS)), (1, .fn (.func 47) [] []), (5, .int .i64 ((i2 : Nat) : Int)), (7, .int .i64 (s1.length : Int)), (8, .int .i64 ((i2 : Nat) : Int))] [] ?_ ?_
      · refine st ?_
        simp
      obtain ⟨x11, q12, l5⟩ := bs l5
      obtain ⟨v13, q14, l5⟩ := bs l5
      refine cut 19 0 [(0, .sl (s1.map cS)), (1, .fn (.func 47) [] []), (5, .int .i64 ((i2 : Nat) : Int)), (7, .int .i64 (s1.length : Int)), (8, .int .i64 ((i2 : Nat) : Int)), (16, .bool v13)] [] ?_ ?_
      · refine st ?_
        simp [q12]
        have r17 := law48_big_1_ok x11 v13 q14
        try simp [q12] at r17
        refine callPure r17 (by simp) rfl ?_
        simp [q12]
      rcases sp l5 with ⟨g15, l5⟩ | ⟨g15, l5⟩
      · refine condT rfl g15 ?_
        refine cut 19 0 [(4, .int .i64 ((i2 : Nat) : Int))] [] ?_ ?_
        · refine st ?_
          simp
        refine awp_ret ?_
        refine ret_blk ?_
        refine ret_seq ?_
        replace h := retL l5 h
        refine ret_seq ?_
        refine ret_blk ?_
        refine ret_seq ?_
        obtain rfl := oi h
        simp
      refine condF rfl g15 ?_
      refine awp_skip ?_
      refine blk_n ?_
      refine seq_eq ?_
      have q16 : Rng .i64 (((i2 : Nat) : Int) + 1) := by simp only [Rng, inR]; omega
      try simp at q16
      refine last 19 0 [(0, .sl (s1.map cS)), (1, .fn (.func 47) [] []), (7, .int .i64 (s1.length : Int)), (8, .int .i64 ((i2 + 1 : Nat) : Int))] [] ?_ fun zz hs => ?_
      · refine st ?_
        simp [q16]
      exact ⟨(k7, i2 + 1), hs, l5, by simp⟩
    have c18 := ltF g8
    refine condF rfl g8 ?_
    refine factL 0 rfl fun f19 => ?_
    rw [List.length_map] at f19
    refine awp_exit ?_
    refine exit_seq ?_
    rcases o4 with o4 | o3
    · cases l5
    have q20 := Sum.inr.inj (Option.some.inj l5)
    replace h := elimR h
    refine exit_seq ?_
    refine exit_blk ?_
    refine seq_le (t := mkS 19 0 [] []) ?_ (le_mkS (by simp []))
    refine cut 19 0 [(4, .int .i64 (-1))] [] ?_ ?_
    · refine st ?_
      simp
    refine awp_ret ?_
    obtain rfl := oi h
    simp
end Go.Proofs.Ythbjlmoaceaeeaa
set_option linter.unusedVariables false
set_option linter.unusedSimpArgs false
set_option maxRecDepth 100000
set_option maxHeartbeats 1000000
namespace Go.Proofs.Ythbjlmoaceaeeaa
open Go Go.Abs
theorem slices_ContainsFunc_string_big_1_ok (fuel : Nat) (s1 : (List (List UInt8))) (r : Bool) (h : M.slices_ContainsFunc_string_big_1 fuel s1 = some r) : Pure Try.prog 46 [.sl (s1.map cS), .fn (.func 47) [] []] (.bool r) := by
  rw [M.slices_ContainsFunc_string_big_1] at h
  refine pure_of_body Try.func46 (by rfl) (by rfl) (by simp) (by simp) (by simp) ?_
  refine cut 9 0 [(0, .sl (s1.map cS)), (1, .fn (.func 47) [] [])] [] ?_ ?_
  · refine st ?_
    simp
  obtain ⟨v2, q3, h⟩ := bs h
  refine cut 9 0 [(4, .bool (leI 0 v2))] [] ?_ ?_
  · refine st ?_
    simp
    have r4 := slices_IndexFunc_string_big_1_ok fuel s1 v2 q3
    try simp [] at r4
    refine callPure r4 (by simp) rfl ?_
    simp
  refine awp_ret ?_
  obtain rfl := oi h
  simp
end Go.Proofs.Ythbjlmoaceaeeaa
set_option linter.unusedVariables false
set_option linter.unusedSimpArgs false
set_option maxRecDepth 100000
set_option maxHeartbeats 1000000
namespace Go.Proofs.Ythbjlmoaceaeeaa
open Go Go.Abs
theorem law48_big_2_ok (f1 : Api.Fun) (r : Bool) (h : M.law48_big_2 f1 = some r) : Pure Try.prog 49 [.agg [.int .i64 f1.Captures, .int .i64 f1.Locals, .int .i64 f1.Depth, .sl (f1.Code.map Api.Instr.c)]] (.bool r) := by
  rw [M.law48_big_2] at h
  refine pure_of_body Try.func49 (by rfl) (by rfl) (by simp) (by simp) (by simp) ?_
  refine cut 17 0 [(1, .mptr 0 0)] [(Api.Fun.c f1)] ?_ ?_
  · refine st ?_
    simp
  refine cut 17 0 [(2, .bool ((ltI 200 (f1.Code.length : Int)) || ((ltI 60 f1.Locals) && (leI f1.Locals 4096))))] [(Api.Fun.c f1)] ?_ ?_
  · rcases tf (ltI 200 (f1.Code.length : Int)) with g2 | g2
    · have c3 := ltT g2
      refine factCL 0 3 rfl rfl rfl fun f4 => ?_
      rw [List.length_map] at f4
      refine st ?_
      simp [g2]
    have c5 := ltF g2
    refine factCL 0 3 rfl rfl rfl fun f6 => ?_
    rw [List.length_map] at f6
    rcases tf (ltI 60 f1.Locals) with g7 | g7
    · have c8 := ltT g7
      refine st ?_
      simp [g2, g7]
    have c9 := ltF g7
    refine st ?_
    simp [g2, g7]
  refine awp_ret ?_
  obtain rfl := oi h
  simp
end Go.Proofs.Ythbjlmoaceaeeaa
set_option linter.unusedVariables false
set_option linter.unusedSimpArgs false
set_option maxRecDepth 100000
set_option maxHeartbeats 1000000
namespace Go.Proofs.Ythbjlmoaceaeeaa
open Go Go.Abs
theorem slices_IndexFunc_api_Fun_big_2_ok (fuel : Nat) (s1 : (List Api.Fun)) (r : Int) (h : M.slices_IndexFunc_api_Fun_big_2 fuel s1 = some r) : Pure Try.prog 85 [.sl (s1.map Api.Fun.c), .fn (.func 49) [] []] (.int .i64 r) := by
  rw [M.slices_IndexFunc_api_Fun_big_2] at h
  refine pure_of_body Try.func85 (by rfl) (by rfl) (by simp) (by simp) (by simp) ?_
  refine cut 19 0 [(0, .sl (s1.map Api.Fun.c)), (1, .fn (.func 49) [] [])] [] ?_ ?_
  · refine st ?_
    simp
  refine awp_seq ?_
  refine cut 19 0 [(0, .sl (s1.map Api.Fun.c)), (1, .fn (.func 49) [] []), (7, .int .i64 (s1.length : Int)), (8, .int .i64 0)] [] ?_ ?_
  · refine st ?_
    simp
  refine awp_block ?_
  obtain ⟨o4, l5, h⟩ := bs h
  refine awp_inv (fun p : Nat × Nat => mkS 19 0 [(0, .sl (s1.map Api.Fun.c)), (1, .fn (.func 49) [] []), (7, .int .i64 (s1.length : Int)), (8, .int .i64 ((p.2 : Nat) : Int))] []) (fun p => M.slices_IndexFunc_api_Fun_big_2_l1 s1 p.1 p.2 = some o4) (fun p => p.1) (fuel, 0) l5 (le_mkS (by simp)) ?_
  rintro ⟨k6, i2⟩ l5
  try dsimp only at l5 ⊢
  cases k6 with
  | zero =>
    rw [M.slices_IndexFunc_api_Fun_big_2_l1] at l5; cases l5
  | succ k7 =>
    rw [M.slices_IndexFunc_api_Fun_big_2_l1] at l5
    refine cut 19 0 [(0, .sl (s1.map Api.Fun.c)), (1, .fn (.func 49) [] []), (7, .int .i64 (s1.length : Int)), (8, .int .i64 ((i2 : Nat) : Int)), (9, .bool (ltI ((i2 : Nat) : Int) (s1.length : Int)))] [] ?_ ?_
    · refine st ?_
      simp
    refine awp_seq ?_
    rcases sp l5 with ⟨g8, l5⟩ | ⟨g8, l5⟩
    · have c9 := ltT g8
      refine condT rfl g8 ?_
      refine factL 0 rfl fun f10 => ?_
      rw [List.length_map] at f10
      refine awp_skip ?_
      refine seq_eq ?_
      refine awp_seq ?_
      refine awp_block ?_
      refine cut 19 0 [(0, .sl (s1.map Api.Fun.c)), (1, .fn (.func 49) [] []), (5, .int .i64 ((i2 : Nat) : Int)), (7, .int .i64 (s1.length : Int)), (8, .int .i64 ((i2 : Nat) : Int))] [] ?_ ?_
      · refine st ?_
        simp
      obtain ⟨x11, q12, l5⟩ := bs l5
      obtain ⟨v13, q14, l5⟩ := bs l5
      refine cut 19 0 [(0, .sl (s1.map Api.Fun.c)), (1, .fn (.func 49) [] []), (5, .int .i64 ((i2 : Nat) : Int)), (7, .int .i64 (s1.length : Int)), (8, .int .i64 ((i2 : Nat) : Int)), (16, .bool v13)] [] ?_ ?_
      · refine st ?_
        simp [q12]
        have r17 := law48_big_2_ok x11 v13 q14
        try simp [q12] at r17
        refine callPure r17 (by simp) rfl ?_
        simp [q12]
      rcases sp l5 with ⟨g15, l5⟩ | ⟨g15, l5⟩
      · refine condT rfl g15 ?_
        refine cut 19 0 [(4, .int .i64 ((i2 : Nat) : Int))] [] ?_ ?_
        · refine st ?_
          simp
        refine awp_ret ?_
        refine ret_blk ?_
        refine ret_seq ?_
        replace h := retL l5 h
        refine ret_seq ?_
        refine ret_blk ?_
        refine ret_seq ?_
        obtain rfl := oi h
        simp
      refine condF rfl g15 ?_
      refine awp_skip ?_
      refine blk_n ?_
      refine seq_eq ?_
      have q16 : Rng .i64 (((i2 : Nat) : Int) + 1) := by simp only [Rng, inR]; omega
      try simp at q16
      refine last 19 0 [(0, .sl (s1.map Api.Fun.c)), (1, .fn (.func 49) [] []), (7, .int .i64 (s1.length : Int)), (8, .int .i64 ((i2 + 1 : Nat) : Int))] [] ?_ fun zz hs => ?_
      · refine st ?_
        simp [q16]
      exact ⟨(k7, i2 + 1), hs, l5, by simp⟩
    have c18 := ltF g8
    refine condF rfl g8 ?_
    refine factL 0 rfl fun f19 => ?_
    rw [List.length_map] at f19
    refine awp_exit ?_
    refine exit_seq ?_
    rcases o4 with o4 | o3
    · cases l5
    have q20 := Sum.inr.inj (Option.some.inj l5)
    replace h := elimR h
    refine exit_seq ?_
    refine exit_blk ?_
    refine seq_le (t := mkS 19 0 [] []) ?_ (le_mkS (by simp []))
    refine cut 19 0 [(4, .int .i64 (-1))] [] ?_ ?_
    · refine st ?_
      simp
    refine awp_ret ?_
    obtain rfl := oi h
    simp
end Go.Proofs.Ythbjlmoaceaeeaa
set_option linter.unusedVariables false
set_option linter.unusedSimpArgs false
set_option maxRecDepth 100000
set_option maxHeartbeats 1000000
namespace Go.Proofs.Ythbjlmoaceaeeaa
open Go Go.Abs
theorem slices_ContainsFunc_api_Fun_big_2_ok (fuel : Nat) (s1 : (List Api.Fun)) (r : Bool) (h : M.slices_ContainsFunc_api_Fun_big_2 fuel s1 = some r) : Pure Try.prog 48 [.sl (s1.map Api.Fun.c), .fn (.func 49) [] []] (.bool r) := by
  rw [M.slices_ContainsFunc_api_Fun_big_2] at h
  refine pure_of_body Try.func48 (by rfl) (by rfl) (by simp) (by simp) (by simp) ?_
  refine cut 9 0 [(0, .sl (s1.map Api.Fun.c)), (1, .fn (.func 49) [] [])] [] ?_ ?_
  · refine st ?_
    simp
  obtain ⟨v2, q3, h⟩ := bs h
  refine cut 9 0 [(4, .bool (leI 0 v2))] [] ?_ ?_
  · refine st ?_
    simp
    have r4 := slices_IndexFunc_api_Fun_big_2_ok fuel s1 v2 q3
    try simp [] at r4
    refine callPure r4 (by simp) rfl ?_
    simp
  refine awp_ret ?_
  obtain rfl := oi h
  simp
end Go.Proofs.Ythbjlmoaceaeeaa
set_option linter.unusedVariables false
set_option linter.unusedSimpArgs false
set_option maxRecDepth 100000
set_option maxHeartbeats 1000000
namespace Go.Proofs.Ythbjlmoaceaeeaa
open Go Go.Abs
theorem law48_big_ok (fuel : Nat) (p1 : Api.Program) (r : Bool) (h : M.law48_big fuel p1 = some r) : Pure Try.prog 14 [.agg [.sl (p1.Funs.map Api.Fun.c), .sl (p1.Texts.map cS), .int .i64 p1.Main]] (.bool r) := by
  rw [M.law48_big] at h
  refine pure_of_body Try.func14 (by rfl) (by rfl) (by simp) (by simp) (by simp) ?_
  refine cut 23 0 [(1, .mptr 0 0)] [(Api.Program.c p1)] ?_ ?_
  · refine st ?_
    simp
  obtain ⟨b17, q18, h⟩ := bs h
  refine cut 23 0 [(2, .bool b17)] [(Api.Program.c p1)] ?_ ?_
  · rcases sp q18 with ⟨g2, q18⟩ | ⟨g2, q18⟩
    · have c3 := ltT g2
      refine factCL 0 0 rfl rfl rfl fun f4 => ?_
      rw [List.length_map] at f4
      obtain rfl := oi q18
      refine st ?_
      simp [g2]
    have c5 := ltF g2
    refine factCL 0 0 rfl rfl rfl fun f6 => ?_
    rw [List.length_map] at f6
    rcases sp q18 with ⟨g7, q18⟩ | ⟨g7, q18⟩
    · have c8 := ltT g7
      refine factCL 0 1 rfl rfl rfl fun f9 => ?_
      rw [List.length_map] at f9
      obtain rfl := oi q18
      refine st ?_
      simp [g2, g7]
    have c10 := ltF g7
    refine factCL 0 1 rfl rfl rfl fun f11 => ?_
    rw [List.length_map] at f11
    obtain ⟨v12, q13, q18⟩ := bs q18
    rcases sp q18 with ⟨g14, q18⟩ | ⟨g14, q18⟩
    · obtain rfl := oi q18
      refine st ?_
      simp [g2, g7, g14]
      have r19 := slices_ContainsFunc_string_big_1_ok fuel p1.Texts v12 q13
      try simp [g2, g7, g14] at r19
      refine callPure r19 (by simp) rfl ?_
      simp [g2, g7, g14]
    obtain ⟨v15, q16, q18⟩ := bs q18
    obtain rfl := oi q18
    refine st ?_
    simp [g2, g7, g14]
    have r20 := slices_ContainsFunc_string_big_1_ok fuel p1.Texts v12 q13
    try simp [g2, g7, g14] at r20
    refine callPure r20 (by simp) rfl ?_
    simp [g2, g7, g14]
    have r21 := slices_ContainsFunc_api_Fun_big_2_ok fuel p1.Funs v15 q16
    try simp [g2, g7, g14] at r21
    refine callPure r21 (by simp) rfl ?_
    simp [g2, g7, g14]
  refine awp_ret ?_
  obtain rfl := oi h
  simp
end Go.Proofs.Ythbjlmoaceaeeaa
set_option linter.unusedVariables false
set_option linter.unusedSimpArgs false
set_option maxRecDepth 100000
set_option maxHeartbeats 1000000
namespace Go.Proofs.Ythbjlmoaceaeeaa
open Go Go.Abs
theorem ref46_in_ok (n1 : Int) (low2 : Int) (high3 : Int) (r : Bool) (h : M.ref46_in n1 low2 high3 = some r) : Pure Try.prog 58 [.int .i64 n1, .int .i64 low2, .int .i64 high3] (.bool r) := by
  rw [M.ref46_in] at h
  refine pure_of_body Try.func58 (by rfl) (by rfl) (by simp) (by simp) (by simp) ?_
  refine cut 15 0 [(0, .int .i64 n1), (1, .int .i64 low2), (2, .int .i64 high3)] [] ?_ ?_
  · refine st ?_
    simp
  refine cut 15 0 [(6, .bool ((leI low2 n1) && (leI n1 high3)))] [] ?_ ?_
  · rcases tf (leI low2 n1) with g4 | g4
    · have c5 := leT g4
      refine st ?_
      simp [g4]
    have c6 := leF g4
    refine st ?_
    simp [g4]
  refine awp_ret ?_
  obtain rfl := oi h
  simp
end Go.Proofs.Ythbjlmoaceaeeaa
set_option linter.unusedVariables false
set_option linter.unusedSimpArgs false
set_option maxRecDepth 100000
set_option maxHeartbeats 1000000
namespace Go.Proofs.Ythbjlmoaceaeeaa
open Go Go.Abs
theorem ref02_Plain_ok (fuel : Nat) (s1 : (List UInt8)) (r : Bool) (h : M.ref02_Plain fuel s1 = some r) : Pure Try.prog 95 [.str s1] (.bool r) := by
  rw [M.ref02_Plain] at h
  refine pure_of_body Try.func95 (by rfl) (by rfl) (by simp) (by simp) (by simp) ?_
  refine cut 26 0 [(0, .str s1)] [] ?_ ?_
  · refine st ?_
    simp
  refine awp_seq ?_
  refine cut 26 0 [(0, .str s1), (3, .int .i64 0)] [] ?_ ?_
  · refine st ?_
    simp
  refine awp_block ?_
  obtain ⟨o4, l5, h⟩ := bs h
  refine awp_inv (fun p : Nat × Nat => mkS 26 0 [(0, .str s1), (3, .int .i64 ((p.2 : Nat) : Int))] []) (fun p => M.ref02_Plain_l1 s1 p.1 p.2 = some o4) (fun p => p.1) (fuel, 0) l5 (le_mkS (by simp)) ?_
  rintro ⟨k6, i2⟩ l5
  try dsimp only at l5 ⊢
  cases k6 with
  | zero =>
    rw [M.ref02_Plain_l1] at l5; cases l5
  | succ k7 =>
    rw [M.ref02_Plain_l1] at l5
    refine awp_seq ?_
    refine cut 26 0 [(0, .str s1), (3, .int .i64 ((i2 : Nat) : Int)), (7, .bool (ltI ((i2 : Nat) : Int) (s1.length : Int)))] [] ?_ ?_
    · refine st ?_
      simp
    rcases sp l5 with ⟨g8, l5⟩ | ⟨g8, l5⟩
    · have c9 := ltT g8
      refine condT rfl g8 ?_
      refine factS 0 rfl fun f10 => ?_
      refine awp_skip ?_
      refine seq_eq ?_
      refine awp_seq ?_
      refine awp_block ?_
      obtain ⟨b19, q20, l5⟩ := bs l5
      refine cut 26 0 [(0, .str s1), (3, .int .i64 ((i2 : Nat) : Int)), (25, .bool b19)] [] ?_ ?_
      · obtain ⟨c11, q12, q20⟩ := bs q20
        rcases sp q20 with ⟨g13, q20⟩ | ⟨g13, q20⟩
        · have c14 := ltT g13
          obtain rfl := oi q20
          refine st ?_
          simp [q12, g13]
        have c15 := ltF g13
        rcases sp q20 with ⟨g16, q20⟩ | ⟨g16, q20⟩
        · have c17 := ltT g16
          obtain rfl := oi q20
          refine st ?_
          simp [q12, g13, g16]
        have c18 := ltF g16
        obtain rfl := oi q20
        refine st ?_
        simp [q12, g13, g16]
      rcases sp l5 with ⟨g21, l5⟩ | ⟨g21, l5⟩
      · refine condT rfl g21 ?_
        refine cut 26 0 [(2, .bool false)] [] ?_ ?_
        · refine st ?_
          simp
        refine awp_ret ?_
        refine ret_blk ?_
        refine ret_seq ?_
        replace h := retL l5 h
        refine ret_seq ?_
        refine ret_blk ?_
        refine ret_seq ?_
        obtain rfl := oi h
        simp
      refine condF rfl g21 ?_
      refine awp_skip ?_
      refine blk_n ?_
      refine seq_eq ?_
      have q22 : Rng .i64 (((i2 : Nat) : Int) + 1) := by simp only [Rng, inR]; omega
      try simp at q22
      refine last 26 0 [(0, .str s1), (3, .int .i64 ((i2 + 1 : Nat) : Int))] [] ?_ fun zz hs => ?_
      · refine st ?_
        simp [q22]
      exact ⟨(k7, i2 + 1), hs, l5, by simp⟩
    have c23 := ltF g8
    refine condF rfl g8 ?_
    refine factS 0 rfl fun f24 => ?_
    refine awp_exit ?_
    refine exit_seq ?_
    rcases o4 with o4 | o3
    · cases l5
    have q25 := Sum.inr.inj (Option.some.inj l5)
    replace h := elimR h
    refine exit_seq ?_
    refine exit_blk ?_
    refine seq_le (t := mkS 26 0 [] []) ?_ (le_mkS (by simp []))
    refine cut 26 0 [(2, .bool true)] [] ?_ ?_
    · refine st ?_
      simp
    refine awp_ret ?_
    obtain rfl := oi h
    simp
end Go.Proofs.Ythbjlmoaceaeeaa
set_option linter.unusedVariables false
set_option linter.unusedSimpArgs false
set_option maxRecDepth 100000
set_option maxHeartbeats 1000000
namespace Go.Proofs.Ythbjlmoaceaeeaa
open Go Go.Abs
theorem ref46_textual_ok (fuel : Nat) (s1 : (List UInt8)) (r : Bool) (h : M.ref46_textual fuel s1 = some r) : Pure Try.prog 59 [.str s1] (.bool r) := by
  rw [M.ref46_textual] at h
  refine pure_of_body Try.func59 (by rfl) (by rfl) (by simp) (by simp) (by simp) ?_
  refine cut 10 0 [(0, .str s1)] [] ?_ ?_
  · refine st ?_
    simp
  obtain ⟨b9, q10, h⟩ := bs h
  refine cut 10 0 [(2, .bool b9)] [] ?_ ?_
  · rcases sp q10 with ⟨g2, q10⟩ | ⟨g2, q10⟩
    · have c3 := leT g2
      refine factS 0 rfl fun f4 => ?_
      obtain ⟨v5, q6, q10⟩ := bs q10
      obtain rfl := oi q10
      refine st ?_
      simp [g2]
      have r11 := ref02_Plain_ok fuel s1 v5 q6
      try simp [g2] at r11
      refine callPure r11 (by simp) rfl ?_
      simp [g2]
    have c7 := leF g2
    refine factS 0 rfl fun f8 => ?_
    obtain rfl := oi q10
    refine st ?_
    simp [g2]
  refine awp_ret ?_
  obtain rfl := oi h
  simp
end Go.Proofs.Ythbjlmoaceaeeaa
set_option linter.unusedVariables false
set_option linter.unusedSimpArgs false
set_option maxRecDepth 100000
set_option maxHeartbeats 1000000
namespace Go.Proofs.Ythbjlmoaceaeeaa
open Go Go.Abs
theorem ref46_Word_ok (op1 : Int) (r : (List UInt8)) (h : M.ref46_Word op1 = some r) : Pure Try.prog 96 [.int .i64 op1] (.str r) := by
  rw [M.ref46_Word] at h
  refine pure_of_body Try.func96 (by rfl) (by rfl) (by simp) (by simp) (by simp) ?_
  refine cut 17 0 [(0, .int .i64 op1)] [] ?_ ?_
  · refine st ?_
    simp
  obtain ⟨l2, q3, h⟩ := bs h
  obtain ⟨q4, q5⟩ := lit_ok q3
  refine cut 17 0 [(0, .int .i64 op1), (3, .osl ⟨1, 9⟩ (l2.map cS))] [] ?_ ?_
  · refine st ?_
    simp [q4, q5]
  refine awp_seq ?_
  refine cut 17 0 [(0, .int .i64 op1), (3, .osl ⟨1, 9⟩ (l2.map cS)), (12, .bool ((ltI op1 1) || (leI (l2.length : Int) op1)))] [] ?_ ?_
  · rcases tf (ltI op1 1) with g6 | g6
    · have c7 := ltT g6
      refine st ?_
      simp [g6]
    have c8 := ltF g6
    refine st ?_
    simp [g6]
  rcases sp h with ⟨g9, h⟩ | ⟨g9, h⟩
  · refine condT rfl g9 ?_
    refine cut 17 0 [(2, .str ([] : List UInt8))] [] ?_ ?_
    · refine st ?_
      simp
    refine awp_ret ?_
    refine ret_seq ?_
    obtain rfl := oi h
    simp
  obtain ⟨g10, g11⟩ := orF g9
  have c12 := ltF g10
  have c13 := leF g11
  refine condF rfl g9 ?_
  refine factL 3 rfl fun f14 => ?_
  rw [List.length_map] at f14
  refine awp_skip ?_
  refine seq_eq ?_
  obtain ⟨x15, q16, h⟩ := bs h
  obtain ⟨q17, q18⟩ := idx_ok q16
  have q19 := litIdx (cS) q18
  rw [q4] at q19
  try simp at q19
  refine cut 17 0 [(2, .str x15)] [] ?_ ?_
  · refine st ?_
    simp [q17, q18, q19]
  refine awp_ret ?_
  obtain rfl := oi h
  simp
end Go.Proofs.Ythbjlmoaceaeeaa
set_option linter.unusedVariables false
set_option linter.unusedSimpArgs false
set_option maxRecDepth 100000
set_option maxHeartbeats 1000000
namespace Go.Proofs.Ythbjlmoaceaeeaa
open Go Go.Abs
theorem ref46_Operands_ok (op1 : Int) (r : Int) (h : M.ref46_Operands op1 = some r) : Pure Try.prog 97 [.int .i64 op1] (.int .i64 r) := by
  rw [M.ref46_Operands] at h
  refine pure_of_body Try.func97 (by rfl) (by rfl) (by simp) (by simp) (by simp) ?_
  refine cut 11 0 [(0, .int .i64 op1)] [] ?_ ?_
  · refine st ?_
    simp
  refine awp_seq ?_
  refine cut 11 0 [(3, .int .i64 op1)] [] ?_ ?_
  · refine st ?_
    simp
  refine awp_block ?_
  refine awp_seq ?_
  refine cut 11 0 [(3, .int .i64 op1), (4, .bool (eqI op1 6))] [] ?_ ?_
  · refine st ?_
    simp
  rcases sp h with ⟨g2, h⟩ | ⟨g2, h⟩
  · have c3 := eqT g2
    refine condT rfl g2 ?_
    refine awp_skip ?_
    refine seq_eq ?_
    refine condT rfl (by simp [g2]) ?_
    refine cut 11 0 [(2, .int .i64 0)] [] ?_ ?_
    · refine st ?_
      simp
    refine awp_ret ?_
    refine ret_blk ?_
    refine ret_seq ?_
    obtain rfl := oi h
    simp
  have c4 := eqF g2
  refine condF rfl g2 ?_
  refine cut 11 0 [(3, .int .i64 op1), (4, .bool (eqI op1 8))] [] ?_ ?_
  · refine st ?_
    simp
  rcases sp h with ⟨g5, h⟩ | ⟨g5, h⟩
  · have c6 := eqT g5
    refine condT rfl g5 ?_
    refine awp_skip ?_
    refine seq_eq ?_
    refine condT rfl (by simp [g5]) ?_
    refine cut 11 0 [(2, .int .i64 0)] [] ?_ ?_
    · refine st ?_
      simp
    refine awp_ret ?_
    refine ret_blk ?_
    refine ret_seq ?_
    obtain rfl := oi h
    simp
  have c7 := eqF g5
  refine condF rfl g5 ?_
  refine last 11 0 [(3, .int .i64 op1), (4, .bool (eqI op1 9))] [] ?_ fun zz hs => ?_
  · refine st ?_
    simp
  refine seq_le ?_ hs
  rcases sp h with ⟨g8, h⟩ | ⟨g8, h⟩
  · have c9 := eqT g8
    refine condT rfl g8 ?_
    refine cut 11 0 [(2, .int .i64 0)] [] ?_ ?_
    · refine st ?_
      simp
    refine awp_ret ?_
    refine ret_blk ?_
    refine ret_seq ?_
    obtain rfl := oi h
    simp
  have c10 := eqF g8
  refine condF rfl g8 ?_
  refine awp_seq ?_
  refine cut 11 0 [(3, .int .i64 op1), (8, .bool (eqI op1 7))] [] ?_ ?_
  · refine st ?_
    simp
  rcases sp h with ⟨g11, h⟩ | ⟨g11, h⟩
  · have c12 := eqT g11
    refine condT rfl g11 ?_
    refine awp_skip ?_
    refine seq_eq ?_
    refine condT rfl (by simp [g11]) ?_
    refine cut 11 0 [(2, .int .i64 2)] [] ?_ ?_
    · refine st ?_
      simp
    refine awp_ret ?_
    refine ret_blk ?_
    refine ret_seq ?_
    obtain rfl := oi h
    simp
  have c13 := eqF g11
  refine condF rfl g11 ?_
  refine last 11 0 [(8, .bool (eqI op1 13))] [] ?_ fun zz hs => ?_
  · refine st ?_
    simp
  refine seq_le ?_ hs
  rcases sp h with ⟨g14, h⟩ | ⟨g14, h⟩
  · have c15 := eqT g14
    refine condT rfl g14 ?_
    refine cut 11 0 [(2, .int .i64 2)] [] ?_ ?_
    · refine st ?_
      simp
    refine awp_ret ?_
    refine ret_blk ?_
    refine ret_seq ?_
    obtain rfl := oi h
    simp
  have c16 := eqF g14
  refine condF rfl g14 ?_
  refine awp_skip ?_
  refine blk_n ?_
  refine seq_eq ?_
  refine cut 11 0 [(2, .int .i64 1)] [] ?_ ?_
  · refine st ?_
    simp
  refine awp_ret ?_
  obtain rfl := oi h
  simp
end Go.Proofs.Ythbjlmoaceaeeaa
set_option linter.unusedVariables false
set_option linter.unusedSimpArgs false
set_option maxRecDepth 100000
set_option maxHeartbeats 1000000
namespace Go.Proofs.Ythbjlmoaceaeeaa
open Go Go.Abs
theorem ref46_Arity_ok (n1 : Int) (r : Int) (h : M.ref46_Arity n1 = some r) : Pure Try.prog 98 [.int .i64 n1] (.int .i64 r) := by
  rw [M.ref46_Arity] at h
  refine pure_of_body Try.func98 (by rfl) (by rfl) (by simp) (by simp) (by simp) ?_
  refine cut 15 0 [(0, .int .i64 n1)] [] ?_ ?_
  · refine st ?_
    simp
  refine awp_seq ?_
  refine cut 15 0 [(0, .int .i64 n1), (3, .int .i64 n1)] [] ?_ ?_
  · refine st ?_
    simp
  refine awp_block ?_
  refine awp_seq ?_
  refine cut 15 0 [(0, .int .i64 n1), (3, .int .i64 n1), (4, .bool (eqI n1 6))] [] ?_ ?_
  · refine st ?_
    simp
  rcases sp h with ⟨g2, h⟩ | ⟨g2, h⟩
  · have c3 := eqT g2
    refine condT rfl g2 ?_
    refine awp_skip ?_
    refine seq_eq ?_
    refine condT rfl (by simp [g2]) ?_
    refine cut 15 0 [(2, .int .i64 1)] [] ?_ ?_
    · refine st ?_
      simp
    refine awp_ret ?_
    refine ret_blk ?_
    refine ret_seq ?_
    obtain rfl := oi h
    simp
  have c4 := eqF g2
  refine condF rfl g2 ?_
  refine cut 15 0 [(0, .int .i64 n1), (3, .int .i64 n1), (4, .bool (eqI n1 11))] [] ?_ ?_
  · refine st ?_
    simp
  rcases sp h with ⟨g5, h⟩ | ⟨g5, h⟩
  · have c6 := eqT g5
    refine condT rfl g5 ?_
    refine awp_skip ?_
    refine seq_eq ?_
    refine condT rfl (by simp [g5]) ?_
    refine cut 15 0 [(2, .int .i64 1)] [] ?_ ?_
    · refine st ?_
      simp
    refine awp_ret ?_
    refine ret_blk ?_
    refine ret_seq ?_
    obtain rfl := oi h
    simp
  have c7 := eqF g5
  refine condF rfl g5 ?_
  refine cut 15 0 [(0, .int .i64 n1), (3, .int .i64 n1), (4, .bool (eqI n1 13))] [] ?_ ?_
  · refine st ?_
    simp
  rcases sp h with ⟨g8, h⟩ | ⟨g8, h⟩
  · have c9 := eqT g8
    refine condT rfl g8 ?_
    refine awp_skip ?_
    refine seq_eq ?_
    refine condT rfl (by simp [g8]) ?_
    refine cut 15 0 [(2, .int .i64 1)] [] ?_ ?_
    · refine st ?_
      simp
    refine awp_ret ?_
    refine ret_blk ?_
    refine ret_seq ?_
    obtain rfl := oi h
    simp
  have c10 := eqF g8
  refine condF rfl g8 ?_
  refine last 15 0 [(0, .int .i64 n1), (4, .bool (eqI n1 14))] [] ?_ fun zz hs => ?_
  · refine st ?_
    simp
  refine seq_le ?_ hs
  rcases sp h with ⟨g11, h⟩ | ⟨g11, h⟩
  · have c12 := eqT g11
    refine condT rfl g11 ?_
    refine cut 15 0 [(2, .int .i64 1)] [] ?_ ?_
    · refine st ?_
      simp
    refine awp_ret ?_
    refine ret_blk ?_
    refine ret_seq ?_
    obtain rfl := oi h
    simp
  have c13 := eqF g11
  refine condF rfl g11 ?_
  refine awp_skip ?_
  refine blk_n ?_
  refine seq_eq ?_
  refine awp_seq ?_
  refine cut 15 0 [(14, .bool ((ltI n1 1) || (ltI 14 n1)))] [] ?_ ?_
  · rcases tf (ltI n1 1) with g14 | g14
    · have c15 := ltT g14
      refine st ?_
      simp [g14]
    have c16 := ltF g14
    refine st ?_
    simp [g14]
  rcases sp h with ⟨g17, h⟩ | ⟨g17, h⟩
  · refine condT rfl g17 ?_
    refine cut 15 0 [(2, .int .i64 0)] [] ?_ ?_
    · refine st ?_
      simp
    refine awp_ret ?_
    refine ret_seq ?_
    obtain rfl := oi h
    simp
  obtain ⟨g18, g19⟩ := orF g17
  have c20 := ltF g18
  have c21 := ltF g19
  refine condF rfl g17 ?_
  refine awp_skip ?_
  refine seq_eq ?_
  refine cut 15 0 [(2, .int .i64 2)] [] ?_ ?_
  · refine st ?_
    simp
  refine awp_ret ?_
  obtain rfl := oi h
  simp
end Go.Proofs.Ythbjlmoaceaeeaa
set_option linter.unusedVariables false
set_option linter.unusedSimpArgs false
set_option maxRecDepth 100000
set_option maxHeartbeats 1000000
namespace Go.Proofs.Ythbjlmoaceaeeaa
open Go Go.Abs
theorem ref46_right_ok (fuel : Nat) (p1 : Api.Program) (f2 : Api.Fun) (at3 : Int) (r : Bool) (h : M.ref46_right fuel p1 f2 at3 = some r) : Pure Try.prog 60 [.agg [.sl (p1.Funs.map Api.Fun.c), .sl (p1.Texts.map cS), .int .i64 p1.Main], .agg [.int .i64 f2.Captures, .int .i64 f2.Locals, .int .i64 f2.Depth, .sl (f2.Code.map Api.Instr.c)], .int .i64 at3] (.bool r) := by
  rw [M.ref46_right] at h
  refine pure_of_body Try.func60 (by rfl) (by rfl) (by simp) (by simp) (by simp) ?_
  refine cut 165 0 [(2, .int .i64 at3), (3, .mptr 0 0), (4, .mptr 1 0)] [(Api.Program.c p1), (Api.Fun.c f2)] ?_ ?_
  · refine st ?_
    simp
  obtain ⟨x4, q5, h⟩ := bs h
  obtain ⟨q6, q7⟩ := idx_ok q5
  refine cut 165 0 [(2, .int .i64 at3), (3, .mptr 0 0), (4, .mptr 1 0), (7, .mptr 2 0)] [(Api.Program.c p1), (Api.Fun.c f2), (Api.Instr.c x4)] ?_ ?_
  · refine st ?_
    simp [q6, q7]
  refine awp_seq ?_
  obtain ⟨b31, q32, h⟩ := bs h
  refine cut 165 0 [(2, .int .i64 at3), (3, .mptr 0 0), (4, .mptr 1 0), (7, .mptr 2 0), (39, .bool b31)] [(Api.Program.c p1), (Api.Fun.c f2), (Api.Instr.c x4)] ?_ ?_
  · obtain ⟨v8, q9, q32⟩ := bs q32
    rcases sp q32 with ⟨g10, q32⟩ | ⟨g10, q32⟩
    · obtain rfl := oi q32
      refine st ?_
      simp [g10]
      have r205 := ref46_Word_ok x4.Op v8 q9
      try simp [g10] at r205
      refine callPure r205 (by simp) rfl ?_
      simp [g10]
    obtain ⟨v11, q12, q32⟩ := bs q32
    rcases sp q32 with ⟨g13, q32⟩ | ⟨g13, q32⟩
    · have c14 := ltT g13
      rcases sp q32 with ⟨g15, q32⟩ | ⟨g15, q32⟩
      · have g16 := notT g15
        have c17 := eqF g16
        obtain rfl := oi q32
        refine st ?_
        simp [g10, g13, g15]
        have r206 := ref46_Word_ok x4.Op v8 q9
        try simp [g10, g13, g15] at r206
        refine callPure r206 (by simp) rfl ?_
        simp [g10, g13, g15]
        have r207 := ref46_Operands_ok x4.Op v11 q12
        try simp [g10, g13, g15] at r207
        refine callPure r207 (by simp) rfl ?_
        simp [g10, g13, g15]
      have g18 := notF g15
      have c19 := eqT g18
      obtain ⟨v20, q21, q32⟩ := bs q32
      rcases sp q32 with ⟨g22, q32⟩ | ⟨g22, q32⟩
      · have c23 := ltT g22
        obtain rfl := oi q32
        refine st ?_
        simp [g10, g13, g15, g22]
        have r208 := ref46_Word_ok x4.Op v8 q9
        try simp [g10, g13, g15, g22] at r208
        refine callPure r208 (by simp) rfl ?_
        simp [g10, g13, g15, g22]
        have r209 := ref46_Operands_ok x4.Op v11 q12
        try simp [g10, g13, g15, g22] at r209
        refine callPure r209 (by simp) rfl ?_
        simp [g10, g13, g15, g22]
        have r210 := ref46_Operands_ok x4.Op v20 q21
        try simp [g10, g13, g15, g22] at r210
        refine callPure r210 (by simp) rfl ?_
        simp [g10, g13, g15, g22]
      have c24 := ltF g22
      obtain rfl := oi q32
      refine st ?_
      simp [g10, g13, g15, g22]
      have r211 := ref46_Word_ok x4.Op v8 q9
      try simp [g10, g13, g15, g22] at r211
      refine callPure r211 (by simp) rfl ?_
      simp [g10, g13, g15, g22]
      have r212 := ref46_Operands_ok x4.Op v11 q12
      try simp [g10, g13, g15, g22] at r212
      refine callPure r212 (by simp) rfl ?_
      simp [g10, g13, g15, g22]
      have r213 := ref46_Operands_ok x4.Op v20 q21
      try simp [g10, g13, g15, g22] at r213
      refine callPure r213 (by simp) rfl ?_
      simp [g10, g13, g15, g22]
    have c25 := ltF g13
    obtain ⟨v26, q27, q32⟩ := bs q32
    rcases sp q32 with ⟨g28, q32⟩ | ⟨g28, q32⟩
    · have c29 := ltT g28
      obtain rfl := oi q32
      refine st ?_
      simp [g10, g13, g28]
      have r214 := ref46_Word_ok x4.Op v8 q9
      try simp [g10, g13, g28] at r214
      refine callPure r214 (by simp) rfl ?_
      simp [g10, g13, g28]
      have r215 := ref46_Operands_ok x4.Op v11 q12
      try simp [g10, g13, g28] at r215
      refine callPure r215 (by simp) rfl ?_
      simp [g10, g13, g28]
      have r216 := ref46_Operands_ok x4.Op v26 q27
      try simp [g10, g13, g28] at r216
      refine callPure r216 (by simp) rfl ?_
      simp [g10, g13, g28]
    have c30 := ltF g28
    obtain rfl := oi q32
    refine st ?_
    simp [g10, g13, g28]
    have r217 := ref46_Word_ok x4.Op v8 q9
    try simp [g10, g13, g28] at r217
    refine callPure r217 (by simp) rfl ?_
    simp [g10, g13, g28]
    have r218 := ref46_Operands_ok x4.Op v11 q12
    try simp [g10, g13, g28] at r218
    refine callPure r218 (by simp) rfl ?_
    simp [g10, g13, g28]
    have r219 := ref46_Operands_ok x4.Op v26 q27
    try simp [g10, g13, g28] at r219
    refine callPure r219 (by simp) rfl ?_
    simp [g10, g13, g28]
  rcases sp h with ⟨g33, h⟩ | ⟨g33, h⟩
  · refine condT rfl g33 ?_
    refine cut 165 0 [(6, .bool false)] [(Api.Program.c p1), (Api.Fun.c f2), (Api.Instr.c x4)] ?_ ?_
    · refine st ?_
      simp
    refine awp_ret ?_
    refine ret_seq ?_
    obtain rfl := oi h
    simp
  refine condF rfl g33 ?_
  refine awp_skip ?_
  refine seq_eq ?_
  refine awp_seq ?_
  refine cut 165 0 [(2, .int .i64 at3), (3, .mptr 0 0), (4, .mptr 1 0), (7, .mptr 2 0), (41, .int .i64 x4.Op)] [(Api.Program.c p1), (Api.Fun.c f2), (Api.Instr.c x4)] ?_ ?_
  · refine st ?_
    simp
  refine awp_block ?_
  refine cut 165 0 [(2, .int .i64 at3), (3, .mptr 0 0), (4, .mptr 1 0), (7, .mptr 2 0), (41, .int .i64 x4.Op), (42, .bool (eqI x4.Op 1))] [(Api.Program.c p1), (Api.Fun.c f2), (Api.Instr.c x4)] ?_ ?_
  · refine st ?_
    simp
  rcases sp h with ⟨g34, h⟩ | ⟨g34, h⟩
  · have c35 := eqT g34
    refine condT rfl g34 ?_
    obtain ⟨v36, q37, h⟩ := bs h
    refine cut 165 0 [(6, .bool v36)] [(Api.Program.c p1), (Api.Fun.c f2), (Api.Instr.c x4)] ?_ ?_
    · refine st ?_
      simp
      have r38 := ref46_in_ok x4.A (-4503599627370496) 4503599627370496 v36 q37
      try simp [] at r38
      refine callPure r38 (by simp) rfl ?_
      simp
    refine awp_ret ?_
    refine ret_blk ?_
    refine ret_seq ?_
    obtain rfl := oi h
    simp
  have c39 := eqF g34
  refine condF rfl g34 ?_
  refine cut 165 0 [(2, .int .i64 at3), (3, .mptr 0 0), (4, .mptr 1 0), (7, .mptr 2 0), (41, .int .i64 x4.Op), (47, .bool (eqI x4.Op 2))] [(Api.Program.c p1), (Api.Fun.c f2), (Api.Instr.c x4)] ?_ ?_
  · refine st ?_
    simp
  rcases sp h with ⟨g40, h⟩ | ⟨g40, h⟩
  · have c41 := eqT g40
    refine condT rfl g40 ?_
    obtain ⟨n42, q43, h⟩ := bs h
    obtain ⟨q44, q45⟩ := chk_ok q43
    try simp at q44
    try simp at q45
    have c46 := q44; simp only [Rng, inR] at c46
    obtain ⟨v47, q48, h⟩ := bs h
    refine cut 165 0 [(6, .bool v47)] [(Api.Program.c p1), (Api.Fun.c f2), (Api.Instr.c x4)] ?_ ?_
    · refine st ?_
      simp [q44, q45]
      have r49 := ref46_in_ok x4.A 0 n42 v47 q48
      try simp [q44, q45] at r49
      refine callPure r49 (by simp) rfl ?_
      simp [q44, q45]
    refine awp_ret ?_
    refine ret_blk ?_
    refine ret_seq ?_
    obtain rfl := oi h
    simp
  have c50 := eqF g40
  refine condF rfl g40 ?_
  refine awp_seq ?_
  refine cut 165 0 [(2, .int .i64 at3), (3, .mptr 0 0), (4, .mptr 1 0), (7, .mptr 2 0), (41, .int .i64 x4.Op), (56, .bool (eqI x4.Op 3))] [(Api.Program.c p1), (Api.Fun.c f2), (Api.Instr.c x4)] ?_ ?_
  · refine st ?_
    simp
  rcases sp h with ⟨g51, h⟩ | ⟨g51, h⟩
  · have c52 := eqT g51
    refine condT rfl g51 ?_
    refine awp_skip ?_
    refine seq_eq ?_
    refine condT rfl (by simp [g51]) ?_
    obtain ⟨n53, q54, h⟩ := bs h
    obtain ⟨q55, q56⟩ := chk_ok q54
    try simp at q55
    try simp at q56
    have c57 := q55; simp only [Rng, inR] at c57
    obtain ⟨v58, q59, h⟩ := bs h
    refine cut 165 0 [(6, .bool v58)] [(Api.Program.c p1), (Api.Fun.c f2), (Api.Instr.c x4)] ?_ ?_
    · refine st ?_
      simp [q55, q56]
      have r60 := ref46_in_ok x4.A 0 n53 v58 q59
      try simp [q55, q56] at r60
      refine callPure r60 (by simp) rfl ?_
      simp [q55, q56]
    refine awp_ret ?_
    refine ret_blk ?_
    refine ret_seq ?_
    obtain rfl := oi h
    simp
  have c61 := eqF g51
  refine condF rfl g51 ?_
  refine last 165 0 [(2, .int .i64 at3), (3, .mptr 0 0), (4, .mptr 1 0), (7, .mptr 2 0), (41, .int .i64 x4.Op), (56, .bool (eqI x4.Op 4))] [(Api.Program.c p1), (Api.Fun.c f2), (Api.Instr.c x4)] ?_ fun zz hs => ?_
  · refine st ?_
    simp
  refine seq_le ?_ hs
  rcases sp h with ⟨g62, h⟩ | ⟨g62, h⟩
  · have c63 := eqT g62
    refine condT rfl g62 ?_
    obtain ⟨n64, q65, h⟩ := bs h
    obtain ⟨q66, q67⟩ := chk_ok q65
    try simp at q66
    try simp at q67
    have c68 := q66; simp only [Rng, inR] at c68
    obtain ⟨v69, q70, h⟩ := bs h
    refine cut 165 0 [(6, .bool v69)] [(Api.Program.c p1), (Api.Fun.c f2), (Api.Instr.c x4)] ?_ ?_
    · refine st ?_
      simp [q66, q67]
      have r71 := ref46_in_ok x4.A 0 n64 v69 q70
      try simp [q66, q67] at r71
      refine callPure r71 (by simp) rfl ?_
      simp [q66, q67]
    refine awp_ret ?_
    refine ret_blk ?_
    refine ret_seq ?_
    obtain rfl := oi h
    simp
  have c72 := eqF g62
  refine condF rfl g62 ?_
  refine cut 165 0 [(2, .int .i64 at3), (3, .mptr 0 0), (4, .mptr 1 0), (7, .mptr 2 0), (41, .int .i64 x4.Op), (65, .bool (eqI x4.Op 5))] [(Api.Program.c p1), (Api.Fun.c f2), (Api.Instr.c x4)] ?_ ?_
  · refine st ?_
    simp
  rcases sp h with ⟨g73, h⟩ | ⟨g73, h⟩
  · have c74 := eqT g73
    refine condT rfl g73 ?_
    obtain ⟨n75, q76, h⟩ := bs h
    obtain ⟨q77, q78⟩ := chk_ok q76
    try simp at q77
    try simp at q78
    have c79 := q77; simp only [Rng, inR] at c79
    obtain ⟨v80, q81, h⟩ := bs h
    refine cut 165 0 [(6, .bool v80)] [(Api.Program.c p1), (Api.Fun.c f2), (Api.Instr.c x4)] ?_ ?_
    · refine st ?_
      simp [q77, q78]
      have r82 := ref46_in_ok x4.A 0 n75 v80 q81
      try simp [q77, q78] at r82
      refine callPure r82 (by simp) rfl ?_
      simp [q77, q78]
    refine awp_ret ?_
    refine ret_blk ?_
    refine ret_seq ?_
    obtain rfl := oi h
    simp
  have c83 := eqF g73
  refine condF rfl g73 ?_
  refine cut 165 0 [(2, .int .i64 at3), (3, .mptr 0 0), (4, .mptr 1 0), (7, .mptr 2 0), (41, .int .i64 x4.Op), (73, .bool (eqI x4.Op 7))] [(Api.Program.c p1), (Api.Fun.c f2), (Api.Instr.c x4)] ?_ ?_
  · refine st ?_
    simp
  rcases sp h with ⟨g84, h⟩ | ⟨g84, h⟩
  · have c85 := eqT g84
    refine condT rfl g84 ?_
    obtain ⟨b98, q99, h⟩ := bs h
    refine cut 165 0 [(6, .bool b98)] [(Api.Program.c p1), (Api.Fun.c f2), (Api.Instr.c x4)] ?_ ?_
    · obtain ⟨n86, q87, q99⟩ := bs q99
      obtain ⟨q88, q89⟩ := chk_ok q87
      try simp at q88
      try simp at q89
      have c90 := q88; simp only [Rng, inR] at c90
      obtain ⟨v91, q92, q99⟩ := bs q99
      rcases sp q99 with ⟨g93, q99⟩ | ⟨g93, q99⟩
      · obtain ⟨x94, q95, q99⟩ := bs q99
        obtain ⟨q96, q97⟩ := idx_ok q95
        obtain rfl := oi q99
        refine awp_region_draw [] mixed (n := 165) rfl (by decide) ?_
        simp [q88, q89, g93, q96, q97]
        have r100 := ref46_in_ok x4.A 0 n86 v91 q92
        try simp [q88, q89, g93, q96, q97] at r100
        refine callD r100 (by simp) rfl ?_
        simp [q88, q89, g93, q96, q97]
      obtain rfl := oi q99
      refine awp_region_draw [] mixed (n := 165) rfl (by decide) ?_
      simp [q88, q89, g93]
      have r101 := ref46_in_ok x4.A 0 n86 v91 q92
      try simp [q88, q89, g93] at r101
      refine callD r101 (by simp) rfl ?_
      simp [q88, q89, g93]
    refine awp_ret ?_
    refine ret_blk ?_
    refine ret_seq ?_
    obtain rfl := oi h
    simp
  have c102 := eqF g84
  refine condF rfl g84 ?_
  refine cut 165 0 [(2, .int .i64 at3), (4, .mptr 1 0), (7, .mptr 2 0), (41, .int .i64 x4.Op), (94, .bool (eqI x4.Op 10))] [(Api.Program.c p1), (Api.Fun.c f2), (Api.Instr.c x4)] ?_ ?_
  · refine st ?_
    simp
  rcases sp h with ⟨g103, h⟩ | ⟨g103, h⟩
  · have c104 := eqT g103
    refine condT rfl g103 ?_
    obtain ⟨v105, q106, h⟩ := bs h
    refine cut 165 0 [(6, .bool v105)] [(Api.Program.c p1), (Api.Fun.c f2), (Api.Instr.c x4)] ?_ ?_
    · refine st ?_
      simp
      have r107 := ref46_in_ok x4.A 0 1000 v105 q106
      try simp [] at r107
      refine callPure r107 (by simp) rfl ?_
      simp
    refine awp_ret ?_
    refine ret_blk ?_
    refine ret_seq ?_
    obtain rfl := oi h
    simp
  have c108 := eqF g103
  refine condF rfl g103 ?_
  refine awp_seq ?_
  refine cut 165 0 [(2, .int .i64 at3), (4, .mptr 1 0), (7, .mptr 2 0), (41, .int .i64 x4.Op), (99, .bool (eqI x4.Op 11))] [(Api.Program.c p1), (Api.Fun.c f2), (Api.Instr.c x4)] ?_ ?_
  · refine st ?_
    simp
  rcases sp h with ⟨g109, h⟩ | ⟨g109, h⟩
  · have c110 := eqT g109
    refine condT rfl g109 ?_
    refine awp_skip ?_
    refine seq_eq ?_
    refine condT rfl (by simp [g109]) ?_
    obtain ⟨v111, q112, h⟩ := bs h
    refine cut 165 0 [(6, .bool v111)] [(Api.Program.c p1), (Api.Fun.c f2), (Api.Instr.c x4)] ?_ ?_
    · refine st ?_
      simp
      have r113 := ref46_in_ok x4.A 0 999 v111 q112
      try simp [] at r113
      refine callPure r113 (by simp) rfl ?_
      simp
    refine awp_ret ?_
    refine ret_blk ?_
    refine ret_seq ?_
    obtain rfl := oi h
    simp
  have c114 := eqF g109
  refine condF rfl g109 ?_
  refine last 165 0 [(2, .int .i64 at3), (4, .mptr 1 0), (7, .mptr 2 0), (41, .int .i64 x4.Op), (99, .bool (eqI x4.Op 12))] [(Api.Program.c p1), (Api.Fun.c f2), (Api.Instr.c x4)] ?_ fun zz hs => ?_
  · refine st ?_
    simp
  refine seq_le ?_ hs
  rcases sp h with ⟨g115, h⟩ | ⟨g115, h⟩
  · have c116 := eqT g115
    refine condT rfl g115 ?_
    obtain ⟨v117, q118, h⟩ := bs h
    refine cut 165 0 [(6, .bool v117)] [(Api.Program.c p1), (Api.Fun.c f2), (Api.Instr.c x4)] ?_ ?_
    · refine st ?_
      simp
      have r119 := ref46_in_ok x4.A 0 999 v117 q118
      try simp [] at r119
      refine callPure r119 (by simp) rfl ?_
      simp
    refine awp_ret ?_
    refine ret_blk ?_
    refine ret_seq ?_
    obtain rfl := oi h
    simp
  have c120 := eqF g115
  refine condF rfl g115 ?_
  refine cut 165 0 [(2, .int .i64 at3), (4, .mptr 1 0), (7, .mptr 2 0), (41, .int .i64 x4.Op), (105, .bool (eqI x4.Op 14))] [(Api.Program.c p1), (Api.Fun.c f2), (Api.Instr.c x4)] ?_ ?_
  · refine st ?_
    simp
  rcases sp h with ⟨g121, h⟩ | ⟨g121, h⟩
  · have c122 := eqT g121
    refine condT rfl g121 ?_
    obtain ⟨n123, q124, h⟩ := bs h
    obtain ⟨q125, q126⟩ := chk_ok q124
    try simp at q125
    try simp at q126
    have c127 := q125; simp only [Rng, inR] at c127
    obtain ⟨v128, q129, h⟩ := bs h
    refine cut 165 0 [(6, .bool v128)] [(Api.Program.c p1), (Api.Fun.c f2), (Api.Instr.c x4)] ?_ ?_
    · refine st ?_
      simp [q125, q126]
      have r130 := ref46_in_ok x4.A 0 n123 v128 q129
      try simp [q125, q126] at r130
      refine callPure r130 (by simp) rfl ?_
      simp [q125, q126]
    refine awp_ret ?_
    refine ret_blk ?_
    refine ret_seq ?_
    obtain rfl := oi h
    simp
  have c131 := eqF g121
  refine condF rfl g121 ?_
  refine cut 165 0 [(2, .int .i64 at3), (4, .mptr 1 0), (7, .mptr 2 0), (41, .int .i64 x4.Op), (114, .bool (eqI x4.Op 15))] [(Api.Program.c p1), (Api.Fun.c f2), (Api.Instr.c x4)] ?_ ?_
  · refine st ?_
    simp
  rcases sp h with ⟨g132, h⟩ | ⟨g132, h⟩
  · have c133 := eqT g132
    refine condT rfl g132 ?_
    obtain ⟨v134, q135, h⟩ := bs h
    refine cut 165 0 [(6, .bool (ltI 0 v134))] [(Api.Program.c p1), (Api.Fun.c f2), (Api.Instr.c x4)] ?_ ?_
    · refine st ?_
      simp
      have r136 := ref46_Arity_ok x4.A v134 q135
      try simp [] at r136
      refine callPure r136 (by simp) rfl ?_
      simp
    refine awp_ret ?_
    refine ret_blk ?_
    refine ret_seq ?_
    obtain rfl := oi h
    simp
  have c137 := eqF g132
  refine condF rfl g132 ?_
  refine cut 165 0 [(2, .int .i64 at3), (4, .mptr 1 0), (7, .mptr 2 0), (41, .int .i64 x4.Op), (120, .bool (eqI x4.Op 16))] [(Api.Program.c p1), (Api.Fun.c f2), (Api.Instr.c x4)] ?_ ?_
  · refine st ?_
    simp
  rcases sp h with ⟨g138, h⟩ | ⟨g138, h⟩
  · have c139 := eqT g138
    refine condT rfl g138 ?_
    obtain ⟨v140, q141, h⟩ := bs h
    refine cut 165 0 [(6, .bool v140)] [(Api.Program.c p1), (Api.Fun.c f2), (Api.Instr.c x4)] ?_ ?_
    · refine st ?_
      simp
      have r142 := ref46_in_ok x4.A 1 1000000 v140 q141
      try simp [] at r142
      refine callPure r142 (by simp) rfl ?_
      simp
    refine awp_ret ?_
    refine ret_blk ?_
    refine ret_seq ?_
    obtain rfl := oi h
    simp
  have c143 := eqF g138
  refine condF rfl g138 ?_
  refine cut 165 0 [(2, .int .i64 at3), (4, .mptr 1 0), (7, .mptr 2 0), (125, .bool (eqI x4.Op 13))] [(Api.Program.c p1), (Api.Fun.c f2), (Api.Instr.c x4)] ?_ ?_
  · refine st ?_
    simp
  rcases sp h with ⟨g144, h⟩ | ⟨g144, h⟩
  · have c145 := eqT g144
    refine condT rfl g144 ?_
    refine awp_seq ?_
    obtain ⟨b166, q167, h⟩ := bs h
    refine cut 165 0 [(2, .int .i64 at3), (4, .mptr 1 0), (7, .mptr 2 0), (149, .bool b166)] [(Api.Program.c p1), (Api.Fun.c f2), (Api.Instr.c x4)] ?_ ?_
    · obtain ⟨n146, q147, q167⟩ := bs q167
      obtain ⟨q148, q149⟩ := chk_ok q147
      try simp at q148
      try simp at q149
      have c150 := q148; simp only [Rng, inR] at c150
      obtain ⟨v151, q152, q167⟩ := bs q167
      rcases sp q167 with ⟨g153, q167⟩ | ⟨g153, q167⟩
      · have g154 := notT g153
        obtain rfl := oi q167
        refine st ?_
        simp [q148, q149, g153]
        have r199 := ref46_in_ok x4.A 0 n146 v151 q152
        try simp [q148, q149, g153] at r199
        refine callPure r199 (by simp) rfl ?_
        simp [q148, q149, g153]
      have g155 := notF g153
      obtain ⟨v156, q157, q167⟩ := bs q167
      rcases sp q167 with ⟨g158, q167⟩ | ⟨g158, q167⟩
      · have g159 := notT g158
        obtain rfl := oi q167
        refine st ?_
        simp [q148, q149, g153, g158]
        have r200 := ref46_in_ok x4.A 0 n146 v151 q152
        try simp [q148, q149, g153, g158] at r200
        refine callPure r200 (by simp) rfl ?_
        simp [q148, q149, g153, g158]
        have r201 := ref46_in_ok x4.B 1 1000 v156 q157
        try simp [q148, q149, g153, g158] at r201
        refine callPure r201 (by simp) rfl ?_
        simp [q148, q149, g153, g158]
      have g160 := notF g158
      obtain ⟨n161, q162, q167⟩ := bs q167
      obtain ⟨q163, q164⟩ := chk_ok q162
      try simp at q163
      try simp at q164
      have c165 := q163; simp only [Rng, inR] at c165
      obtain rfl := oi q167
      refine st ?_
      simp [q148, q149, g153, g158, q163, q164]
      have r202 := ref46_in_ok x4.A 0 n146 v151 q152
      try simp [q148, q149, g153, g158, q163, q164] at r202
      refine callPure r202 (by simp) rfl ?_
      simp [q148, q149, g153, g158, q163, q164]
      have r203 := ref46_in_ok x4.B 1 1000 v156 q157
      try simp [q148, q149, g153, g158, q163, q164] at r203
      refine callPure r203 (by simp) rfl ?_
      simp [q148, q149, g153, g158, q163, q164]
    rcases sp h with ⟨g168, h⟩ | ⟨g168, h⟩
    · refine condT rfl g168 ?_
      refine cut 165 0 [(6, .bool false)] [(Api.Program.c p1), (Api.Fun.c f2), (Api.Instr.c x4)] ?_ ?_
      · refine st ?_
        simp
      refine awp_ret ?_
      refine ret_seq ?_
      refine ret_blk ?_
      refine ret_seq ?_
      obtain rfl := oi h
      simp
    refine condF rfl g168 ?_
    refine awp_skip ?_
    refine seq_eq ?_
    refine cut 165 0 [(2, .int .i64 at3), (4, .mptr 1 0), (7, .mptr 2 0), (8, .int .i64 1)] [(Api.Program.c p1), (Api.Fun.c f2), (Api.Instr.c x4)] ?_ ?_
    · refine st ?_
      simp
    refine awp_block ?_
    obtain ⟨o171, l172, h⟩ := bs h
    refine awp_inv (fun p : Nat × Int => mkS 165 0 [(2, .int .i64 at3), (4, .mptr 1 0), (7, .mptr 2 0), (8, .int .i64 p.2)] [(Api.Program.c p1), (Api.Fun.c f2), (Api.Instr.c x4)]) (fun p => M.ref46_right_l1 f2 at3 x4 p.1 p.2 = some o171 ∧ 1 ≤ p.2) (fun p => p.1) (fuel, 1) ⟨l172, by (try dsimp only); omega⟩ (le_mkS (by simp)) ?_
    rintro ⟨k174, k169⟩ ⟨l172, c173⟩
    try dsimp only at l172 c173 ⊢
    cases k174 with
    | zero =>
      rw [M.ref46_right_l1] at l172; cases l172
    | succ k175 =>
      rw [M.ref46_right_l1] at l172
      refine awp_seq ?_
      refine cut 165 0 [(2, .int .i64 at3), (4, .mptr 1 0), (7, .mptr 2 0), (8, .int .i64 k169), (153, .bool (leI k169 x4.B))] [(Api.Program.c p1), (Api.Fun.c f2), (Api.Instr.c x4)] ?_ ?_
      · refine st ?_
        simp
      rcases sp l172 with ⟨g176, l172⟩ | ⟨g176, l172⟩
      · have c177 := leT g176
        refine condT rfl g176 ?_
        refine awp_skip ?_
        refine seq_eq ?_
        refine awp_seq ?_
        refine awp_block ?_
        obtain ⟨n178, q179, l172⟩ := bs l172
        obtain ⟨q180, q181⟩ := chk_ok q179
        try simp at q180
        try simp at q181
        have c182 := q180; simp only [Rng, inR] at c182
        obtain ⟨x183, q184, l172⟩ := bs l172
        obtain ⟨q185, q186⟩ := idx_ok q184
        refine cut 165 0 [(2, .int .i64 at3), (4, .mptr 1 0), (7, .mptr 2 0), (8, .int .i64 k169), (164, .bool (!(eqI x183.Op 14)))] [(Api.Program.c p1), (Api.Fun.c f2), (Api.Instr.c x4)] ?_ ?_
        · refine st ?_
          simp [q180, q181, q185, q186]
        rcases sp l172 with ⟨g187, l172⟩ | ⟨g187, l172⟩
        · have g188 := notT g187
          have c189 := eqF g188
          refine condT rfl g187 ?_
          refine cut 165 0 [(6, .bool false)] [(Api.Program.c p1), (Api.Fun.c f2), (Api.Instr.c x4)] ?_ ?_
          · refine st ?_
            simp
          refine awp_ret ?_
          refine ret_blk ?_
          refine ret_seq ?_
          replace h := retL l172 h
          refine ret_seq ?_
          refine ret_blk ?_
          refine ret_blk ?_
          refine ret_seq ?_
          obtain rfl := oi h
          simp
        have g190 := notF g187
        have c191 := eqT g190
        refine condF rfl g187 ?_
        refine awp_skip ?_
        refine blk_n ?_
        refine seq_eq ?_
        obtain ⟨n192, q193, l172⟩ := bs l172
        obtain ⟨q194, q195⟩ := chk_ok q193
        try simp at q194
        try simp at q195
        have c196 := q194; simp only [Rng, inR] at c196
        refine last 165 0 [(2, .int .i64 at3), (4, .mptr 1 0), (7, .mptr 2 0), (8, .int .i64 n192)] [(Api.Program.c p1), (Api.Fun.c f2), (Api.Instr.c x4)] ?_ fun zz hs => ?_
        · refine st ?_
          simp [q194, q195]
        exact ⟨(k175, n192), hs, ⟨l172, by (try dsimp only); (try unfold maxI); (first | omega | (split <;> omega))⟩, by simp⟩
      have c197 := leF g176
      refine condF rfl g176 ?_
      refine awp_exit ?_
      refine exit_seq ?_
      rcases o171 with o171 | o170
      · cases l172
      have q198 := Sum.inr.inj (Option.some.inj l172)
      replace h := elimR h
      refine exit_seq ?_
      refine exit_blk ?_
      refine blk_n ?_
      refine seq_le (t := mkS 165 0 [] [(Api.Program.c p1), (Api.Fun.c f2), (Api.Instr.c x4)]) ?_ (le_mkS (by simp []))
      refine cut 165 0 [(6, .bool true)] [(Api.Program.c p1), (Api.Fun.c f2), (Api.Instr.c x4)] ?_ ?_
      · refine st ?_
        simp
      refine awp_ret ?_
      obtain rfl := oi h
      simp
  have c204 := eqF g144
  refine condF rfl g144 ?_
  refine awp_skip ?_
  refine blk_n ?_
  refine seq_eq ?_
  refine cut 165 0 [(6, .bool true)] [(Api.Program.c p1), (Api.Fun.c f2), (Api.Instr.c x4)] ?_ ?_
  · refine st ?_
    simp
  refine awp_ret ?_
  obtain rfl := oi h
  simp
end Go.Proofs.Ythbjlmoaceaeeaa
set_option linter.unusedVariables false
set_option linter.unusedSimpArgs false
set_option maxRecDepth 100000
set_option maxHeartbeats 1000000
namespace Go.Proofs.Ythbjlmoaceaeeaa
open Go Go.Abs
theorem ref46_Valid_ok (fuel : Nat) (p1 : Api.Program) (r : Bool) (h : M.ref46_Valid fuel p1 = some r) : Pure Try.prog 26 [.agg [.sl (p1.Funs.map Api.Fun.c), .sl (p1.Texts.map cS), .int .i64 p1.Main]] (.bool r) := by
  rw [M.ref46_Valid] at h
  refine pure_of_body Try.func26 (by rfl) (by rfl) (by simp) (by simp) (by simp) ?_
  refine cut 99 0 [(1, .mptr 0 0)] [(Api.Program.c p1)] ?_ ?_
  · refine st ?_
    simp
  refine awp_seq ?_
  obtain ⟨b26, q27, h⟩ := bs h
  refine cut 99 0 [(1, .mptr 0 0), (37, .bool b26)] [(Api.Program.c p1)] ?_ ?_
  · obtain ⟨v2, q3, q27⟩ := bs q27
    rcases sp q27 with ⟨g4, q27⟩ | ⟨g4, q27⟩
    · have g5 := notT g4
      obtain rfl := oi q27
      refine st ?_
      simp [g4]
      have r114 := ref46_in_ok (p1.Funs.length : Int) 1 4096 v2 q3
      try simp [g4] at r114
      refine callPure r114 (by simp) rfl ?_
      simp [g4]
    have g6 := notF g4
    rcases sp q27 with ⟨g7, q27⟩ | ⟨g7, q27⟩
    · have c8 := ltT g7
      refine factCL 0 1 rfl rfl rfl fun f9 => ?_
      rw [List.length_map] at f9
      obtain rfl := oi q27
      refine st ?_
      simp [g4, g7]
      have r115 := ref46_in_ok (p1.Funs.length : Int) 1 4096 v2 q3
      try simp [g4, g7] at r115
      refine callPure r115 (by simp) rfl ?_
      simp [g4, g7]
    have c10 := ltF g7
    refine factCL 0 1 rfl rfl rfl fun f11 => ?_
    rw [List.length_map] at f11
    obtain ⟨n12, q13, q27⟩ := bs q27
    obtain ⟨q14, q15⟩ := chk_ok q13
    try simp at q14
    try simp at q15
    have c16 := q14; simp only [Rng, inR] at c16
    obtain ⟨v17, q18, q27⟩ := bs q27
    rcases sp q27 with ⟨g19, q27⟩ | ⟨g19, q27⟩
    · have g20 := notT g19
      obtain rfl := oi q27
      refine st ?_
      simp [g4, g7, q14, q15, g19]
      have r116 := ref46_in_ok (p1.Funs.length : Int) 1 4096 v2 q3
      try simp [g4, g7, q14, q15, g19] at r116
      refine callPure r116 (by simp) rfl ?_
      simp [g4, g7, q14, q15, g19]
      have r117 := ref46_in_ok p1.Main 0 n12 v17 q18
      try simp [g4, g7, q14, q15, g19] at r117
      refine callPure r117 (by simp) rfl ?_
      simp [g4, g7, q14, q15, g19]
    have g21 := notF g19
    obtain ⟨x22, q23, q27⟩ := bs q27
    obtain ⟨q24, q25⟩ := idx_ok q23
    obtain rfl := oi q27
    refine st ?_
    simp [g4, g7, q14, q15, g19, q24, q25]
    have r118 := ref46_in_ok (p1.Funs.length : Int) 1 4096 v2 q3
    try simp [g4, g7, q14, q15, g19, q24, q25] at r118
    refine callPure r118 (by simp) rfl ?_
    simp [g4, g7, q14, q15, g19, q24, q25]
    have r119 := ref46_in_ok p1.Main 0 n12 v17 q18
    try simp [g4, g7, q14, q15, g19, q24, q25] at r119
    refine callPure r119 (by simp) rfl ?_
    simp [g4, g7, q14, q15, g19, q24, q25]
  rcases sp h with ⟨g28, h⟩ | ⟨g28, h⟩
  · refine condT rfl g28 ?_
    refine cut 99 0 [(2, .bool false)] [(Api.Program.c p1)] ?_ ?_
    · refine st ?_
      simp
    refine awp_ret ?_
    refine ret_seq ?_
    obtain rfl := oi h
    simp
  refine condF rfl g28 ?_
  refine awp_skip ?_
  refine seq_eq ?_
  refine awp_seq ?_
  refine cut 99 0 [(1, .mptr 0 0), (3, .int .i64 0)] [(Api.Program.c p1)] ?_ ?_
  · refine st ?_
    simp
  refine awp_block ?_
  obtain ⟨o31, l32, h⟩ := bs h
  refine awp_inv (fun p : Nat × Nat => mkS 99 0 [(1, .mptr 0 0), (3, .int .i64 ((p.2 : Nat) : Int))] [(Api.Program.c p1)]) (fun p => M.ref46_Valid_l1 fuel p1 p.1 p.2 = some o31) (fun p => p.1) (fuel, 0) l32 (le_mkS (by simp)) ?_
  rintro ⟨k33, i29⟩ l32
  try dsimp only at l32 ⊢
  cases k33 with
  | zero =>
    rw [M.ref46_Valid_l1] at l32; cases l32
  | succ k34 =>
    rw [M.ref46_Valid_l1] at l32
    refine awp_seq ?_
    refine cut 99 0 [(1, .mptr 0 0), (3, .int .i64 ((i29 : Nat) : Int)), (42, .bool (ltI ((i29 : Nat) : Int) (p1.Texts.length : Int)))] [(Api.Program.c p1)] ?_ ?_
    · refine st ?_
      simp
    rcases sp l32 with ⟨g35, l32⟩ | ⟨g35, l32⟩
    · have c36 := ltT g35
      refine condT rfl g35 ?_
      refine factCL 0 1 rfl rfl rfl fun f37 => ?_
      rw [List.length_map] at f37
      refine awp_skip ?_
      refine seq_eq ?_
      refine awp_seq ?_
      refine awp_block ?_
      obtain ⟨x38, q39, l32⟩ := bs l32
      obtain ⟨v40, q41, l32⟩ := bs l32
      refine cut 99 0 [(1, .mptr 0 0), (3, .int .i64 ((i29 : Nat) : Int)), (51, .bool (!v40))] [(Api.Program.c p1)] ?_ ?_
      · refine st ?_
        simp [q39]
        have r46 := ref46_textual_ok fuel x38 v40 q41
        try simp [q39] at r46
        refine callPure r46 (by simp) rfl ?_
        simp [q39]
      rcases sp l32 with ⟨g42, l32⟩ | ⟨g42, l32⟩
      · have g43 := notT g42
        refine condT rfl g42 ?_
        refine cut 99 0 [(2, .bool false)] [(Api.Program.c p1)] ?_ ?_
        · refine st ?_
          simp
        refine awp_ret ?_
        refine ret_blk ?_
        refine ret_seq ?_
        replace h := retL l32 h
        refine ret_seq ?_
        refine ret_blk ?_
        refine ret_seq ?_
        obtain rfl := oi h
        simp
      have g44 := notF g42
      refine condF rfl g42 ?_
      refine awp_skip ?_
      refine blk_n ?_
      refine seq_eq ?_
      have q45 : Rng .i64 (((i29 : Nat) : Int) + 1) := by simp only [Rng, inR]; omega
      try simp at q45
      refine last 99 0 [(1, .mptr 0 0), (3, .int .i64 ((i29 + 1 : Nat) : Int))] [(Api.Program.c p1)] ?_ fun zz hs => ?_
      · refine st ?_
        simp [q45]
      exact ⟨(k34, i29 + 1), hs, l32, by simp⟩
    have c47 := ltF g35
    refine condF rfl g35 ?_
    refine factCL 0 1 rfl rfl rfl fun f48 => ?_
    rw [List.length_map] at f48
    refine awp_exit ?_
    refine exit_seq ?_
    rcases o31 with o31 | o30
    · cases l32
    have q49 := Sum.inr.inj (Option.some.inj l32)
    replace h := elimR h
    refine exit_seq ?_
    refine exit_blk ?_
    refine seq_le (t := mkS 99 0 [(1, .mptr 0 0)] [(Api.Program.c p1)]) ?_ (le_mkS (by simp []))
    refine awp_seq ?_
    refine cut 99 0 [(1, .mptr 0 0), (4, .int .i64 0)] [(Api.Program.c p1)] ?_ ?_
    · refine st ?_
      simp
    refine awp_block ?_
    obtain ⟨o52, l53, h⟩ := bs h
    refine awp_inv (fun p : Nat × Nat => mkS 99 0 [(1, .mptr 0 0), (4, .int .i64 ((p.2 : Nat) : Int))] [(Api.Program.c p1)]) (fun p => M.ref46_Valid_l2 fuel p1 p.1 p.2 = some o52) (fun p => p.1) (fuel, 0) l53 (le_mkS (by simp)) ?_
    rintro ⟨k54, i50⟩ l53
    try dsimp only at l53 ⊢
    cases k54 with
    | zero =>
      rw [M.ref46_Valid_l2] at l53; cases l53
    | succ k55 =>
      rw [M.ref46_Valid_l2] at l53
      refine awp_seq ?_
      refine cut 99 0 [(1, .mptr 0 0), (4, .int .i64 ((i50 : Nat) : Int)), (56, .bool (ltI ((i50 : Nat) : Int) (p1.Funs.length : Int)))] [(Api.Program.c p1)] ?_ ?_
      · refine st ?_
        simp
      rcases sp l53 with ⟨g56, l53⟩ | ⟨g56, l53⟩
      · have c57 := ltT g56
        refine condT rfl g56 ?_
        refine factCL 0 0 rfl rfl rfl fun f58 => ?_
        rw [List.length_map] at f58
        refine awp_skip ?_
        refine seq_eq ?_
        refine awp_seq ?_
        refine awp_block ?_
        obtain ⟨x59, q60, l53⟩ := bs l53
        refine cut 99 0 [(1, .mptr 0 0), (4, .int .i64 ((i50 : Nat) : Int)), (5, .mptr 1 0)] [(Api.Program.c p1), (Api.Fun.c x59)] ?_ ?_
        · refine st ?_
          simp [q60]
        refine awp_seq ?_
        obtain ⟨b78, q79, l53⟩ := bs l53
        refine cut 99 0 [(1, .mptr 0 0), (4, .int .i64 ((i50 : Nat) : Int)), (5, .mptr 1 0), (86, .bool b78)] [(Api.Program.c p1), (Api.Fun.c x59)] ?_ ?_
        · obtain ⟨v61, q62, q79⟩ := bs q79
          rcases sp q79 with ⟨g63, q79⟩ | ⟨g63, q79⟩
          · have g64 := notT g63
            obtain rfl := oi q79
            refine st ?_
            simp [g63]
            have r101 := ref46_in_ok x59.Captures 0 1000 v61 q62
            try simp [g63] at r101
            refine callPure r101 (by simp) rfl ?_
            simp [g63]
          have g65 := notF g63
          obtain ⟨v66, q67, q79⟩ := bs q79
          rcases sp q79 with ⟨g68, q79⟩ | ⟨g68, q79⟩
          · have g69 := notT g68
            obtain rfl := oi q79
            refine st ?_
            simp [g63, g68]
            have r102 := ref46_in_ok x59.Captures 0 1000 v61 q62
            try simp [g63, g68] at r102
            refine callPure r102 (by simp) rfl ?_
            simp [g63, g68]
            have r103 := ref46_in_ok x59.Locals 1 4096 v66 q67
            try simp [g63, g68] at r103
            refine callPure r103 (by simp) rfl ?_
            simp [g63, g68]
          have g70 := notF g68
          obtain ⟨v71, q72, q79⟩ := bs q79
          rcases sp q79 with ⟨g73, q79⟩ | ⟨g73, q79⟩
          · have g74 := notT g73
            obtain rfl := oi q79
            refine st ?_
            simp [g63, g68, g73]
            have r104 := ref46_in_ok x59.Captures 0 1000 v61 q62
            try simp [g63, g68, g73] at r104
            refine callPure r104 (by simp) rfl ?_
            simp [g63, g68, g73]
            have r105 := ref46_in_ok x59.Locals 1 4096 v66 q67
            try simp [g63, g68, g73] at r105
            refine callPure r105 (by simp) rfl ?_
            simp [g63, g68, g73]
            have r106 := ref46_in_ok x59.Depth 0 4096 v71 q72
            try simp [g63, g68, g73] at r106
            refine callPure r106 (by simp) rfl ?_
            simp [g63, g68, g73]
          have g75 := notF g73
          obtain ⟨v76, q77, q79⟩ := bs q79
          obtain rfl := oi q79
          refine st ?_
          simp [g63, g68, g73]
          have r107 := ref46_in_ok x59.Captures 0 1000 v61 q62
          try simp [g63, g68, g73] at r107
          refine callPure r107 (by simp) rfl ?_
          simp [g63, g68, g73]
          have r108 := ref46_in_ok x59.Locals 1 4096 v66 q67
          try simp [g63, g68, g73] at r108
          refine callPure r108 (by simp) rfl ?_
          simp [g63, g68, g73]
          have r109 := ref46_in_ok x59.Depth 0 4096 v71 q72
          try simp [g63, g68, g73] at r109
          refine callPure r109 (by simp) rfl ?_
          simp [g63, g68, g73]
          have r110 := ref46_in_ok (x59.Code.length : Int) 1 16384 v76 q77
          try simp [g63, g68, g73] at r110
          refine callPure r110 (by simp) rfl ?_
          simp [g63, g68, g73]
        rcases sp l53 with ⟨g80, l53⟩ | ⟨g80, l53⟩
        · refine condT rfl g80 ?_
          refine cut 99 0 [(2, .bool false)] [(Api.Program.c p1), (Api.Fun.c x59)] ?_ ?_
          · refine st ?_
            simp
          refine awp_ret ?_
          refine ret_seq ?_
          refine ret_blk ?_
          refine ret_seq ?_
          replace h := retL l53 h
          refine ret_seq ?_
          refine ret_blk ?_
          refine ret_seq ?_
          obtain rfl := oi h
          simp
        refine condF rfl g80 ?_
        refine awp_skip ?_
        refine seq_eq ?_
        refine cut 99 0 [(1, .mptr 0 0), (4, .int .i64 ((i50 : Nat) : Int)), (5, .mptr 1 0), (6, .int .i64 0)] [(Api.Program.c p1), (Api.Fun.c x59)] ?_ ?_
        · refine st ?_
          simp
        refine awp_block ?_
        obtain ⟨o83, l84, l53⟩ := bs l53
        refine awp_inv (fun p : Nat × Nat => mkS 99 0 [(1, .mptr 0 0), (4, .int .i64 ((i50 : Nat) : Int)), (5, .mptr 1 0), (6, .int .i64 ((p.2 : Nat) : Int))] [(Api.Program.c p1), (Api.Fun.c x59)]) (fun p => M.ref46_Valid_l3 fuel p1 x59 p.1 p.2 = some o83) (fun p => p.1) (fuel, 0) l84 (le_mkS (by simp)) ?_
        rintro ⟨k85, k81⟩ l84
        try dsimp only at l84 ⊢
        cases k85 with
        | zero =>
          rw [M.ref46_Valid_l3] at l84; cases l84
        | succ k86 =>
          rw [M.ref46_Valid_l3] at l84
          refine awp_seq ?_
          refine cut 99 0 [(1, .mptr 0 0), (4, .int .i64 ((i50 : Nat) : Int)), (5, .mptr 1 0), (6, .int .i64 ((k81 : Nat) : Int)), (91, .bool (ltI ((k81 : Nat) : Int) (x59.Code.length : Int)))] [(Api.Program.c p1), (Api.Fun.c x59)] ?_ ?_
          · refine st ?_
            simp
          rcases sp l84 with ⟨g87, l84⟩ | ⟨g87, l84⟩
          · have c88 := ltT g87
            refine condT rfl g87 ?_
            refine factCL 1 3 rfl rfl rfl fun f89 => ?_
            rw [List.length_map] at f89
            refine awp_skip ?_
            refine seq_eq ?_
            refine awp_seq ?_
            refine awp_block ?_
            obtain ⟨v90, q91, l84⟩ := bs l84
            refine cut 99 0 [(1, .mptr 0 0), (4, .int .i64 ((i50 : Nat) : Int)), (5, .mptr 1 0), (6, .int .i64 ((k81 : Nat) : Int)), (98, .bool (!v90))] [(Api.Program.c p1), (Api.Fun.c x59)] ?_ ?_
            · refine st ?_
              simp
              have r96 := ref46_right_ok fuel p1 x59 ((k81 : Nat) : Int) v90 q91
              try simp [] at r96
              refine callPure r96 (by simp) rfl ?_
              simp
            rcases sp l84 with ⟨g92, l84⟩ | ⟨g92, l84⟩
            · have g93 := notT g92
              refine condT rfl g92 ?_
              refine cut 99 0 [(2, .bool false)] [(Api.Program.c p1), (Api.Fun.c x59)] ?_ ?_
              · refine st ?_
                simp
              refine awp_ret ?_
              refine ret_blk ?_
              refine ret_seq ?_
              replace l53 := retL l84 l53
              refine ret_seq ?_
              refine ret_blk ?_
              refine ret_blk ?_
              refine ret_seq ?_
              replace h := retL l53 h
              refine ret_seq ?_
              refine ret_blk ?_
              refine ret_seq ?_
              obtain rfl := oi h
              simp
            have g94 := notF g92
            refine condF rfl g92 ?_
            refine awp_skip ?_
            refine blk_n ?_
            refine seq_eq ?_
            have q95 : Rng .i64 (((k81 : Nat) : Int) + 1) := by simp only [Rng, inR]; omega
            try simp at q95
            refine last 99 0 [(1, .mptr 0 0), (4, .int .i64 ((i50 : Nat) : Int)), (5, .mptr 1 0), (6, .int .i64 ((k81 + 1 : Nat) : Int))] [(Api.Program.c p1), (Api.Fun.c x59)] ?_ fun zz hs => ?_
            · refine st ?_
              simp [q95]
            exact ⟨(k86, k81 + 1), hs, l84, by simp⟩
          have c97 := ltF g87
          refine condF rfl g87 ?_
          refine factCL 1 3 rfl rfl rfl fun f98 => ?_
          rw [List.length_map] at f98
          refine awp_exit ?_
          refine exit_seq ?_
          rcases o83 with o83 | o82
          · cases l84
          have q99 := Sum.inr.inj (Option.some.inj l84)
          replace l53 := elimR l53
          refine exit_seq ?_
          refine exit_blk ?_
          refine blk_n ?_
          refine seq_le (t := mkS 99 0 [(1, .mptr 0 0), (4, .int .i64 ((i50 : Nat) : Int))] [(Api.Program.c p1), (Api.Fun.c x59)]) ?_ (le_mkS (by simp []))
          have q100 : Rng .i64 (((i50 : Nat) : Int) + 1) := by simp only [Rng, inR]; omega
          try simp at q100
          refine last 99 0 [(1, .mptr 0 0), (4, .int .i64 ((i50 + 1 : Nat) : Int))] [(Api.Program.c p1)] ?_ fun zz hs => ?_
          · refine st ?_
            simp [q100]
          exact ⟨(k55, i50 + 1), hs, l53, by simp⟩
      have c111 := ltF g56
      refine condF rfl g56 ?_
      refine factCL 0 0 rfl rfl rfl fun f112 => ?_
      rw [List.length_map] at f112
      refine awp_exit ?_
      refine exit_seq ?_
      rcases o52 with o52 | o51
      · cases l53
      have q113 := Sum.inr.inj (Option.some.inj l53)
      replace h := elimR h
      refine exit_seq ?_
      refine exit_blk ?_
      refine seq_le (t := mkS 99 0 [] [(Api.Program.c p1)]) ?_ (le_mkS (by simp []))
      refine cut 99 0 [(2, .bool true)] [(Api.Program.c p1)] ?_ ?_
      · refine st ?_
        simp
      refine awp_ret ?_
      obtain rfl := oi h
      simp
end Go.Proofs.Ythbjlmoaceaeeaa
set_option linter.unusedVariables false
set_option linter.unusedSimpArgs false
set_option maxRecDepth 100000
set_option maxHeartbeats 1000000
namespace Go.Proofs.Ythbjlmoaceaeeaa
open Go Go.Abs
theorem slices_Clone_api_Fun_ok (s1 : (List Api.Fun)) (r : (List Api.Fun)) (h : M.slices_Clone_api_Fun s1 = some r) : Raw Try.prog 22 [.sl (s1.map Api.Fun.c)] [] (.msl 0 4 r.length) [row Api.Fun.c r] := by
  rw [M.slices_Clone_api_Fun] at h
  refine raw_of_bodyB Try.func22 (by rfl) (by rfl) (by simp) (by simp) ?_
  refine cut 8 0 [(0, .sl (s1.map Api.Fun.c))] [] ?_ ?_
  · refine st ?_
    simp
  refine awp_seq ?_
  obtain ⟨u2, q3, h⟩ := bs h
  have q4 := neC_ok q3
  refine cut 8 0 [(0, .sl (s1.map Api.Fun.c)), (4, .bool false)] [] ?_ ?_
  · refine st ?_
    simp [q4]
  refine condF rfl rfl ?_
  refine awp_skip ?_
  refine seq_eq ?_
  obtain ⟨l5, q6, h⟩ := bs h
  obtain ⟨q7, q8⟩ := clC_ok q6
  have q9 := clC_row (Api.Fun.c) l5
  try simp at q9
  refine cut 8 0 [(2, .msl 0 4 l5.length)] [row Api.Fun.c l5] ?_ ?_
  · refine st ?_
    simp [q7, q8, q9]
    refine empR ?_
    simp [q7, q8, q9]
  refine awp_ret ?_
  obtain rfl := oi h
  simp
end Go.Proofs.Ythbjlmoaceaeeaa
set_option linter.unusedVariables false
set_option linter.unusedSimpArgs false
set_option maxRecDepth 100000
set_option maxHeartbeats 1000000
namespace Go.Proofs.Ythbjlmoaceaeeaa
open Go Go.Abs
theorem slices_Clone_api_Instr_ok (s1 : (List Api.Instr)) (r : (List Api.Instr)) (h : M.slices_Clone_api_Instr s1 = some r) : Raw Try.prog 25 [.sl (s1.map Api.Instr.c)] [] (.msl 0 3 r.length) [row Api.Instr.c r] := by
  rw [M.slices_Clone_api_Instr] at h
  refine raw_of_bodyB Try.func25 (by rfl) (by rfl) (by simp) (by simp) ?_
  refine cut 8 0 [(0, .sl (s1.map Api.Instr.c))] [] ?_ ?_
  · refine st ?_
    simp
  refine awp_seq ?_
  obtain ⟨u2, q3, h⟩ := bs h
  have q4 := neC_ok q3
  refine cut 8 0 [(0, .sl (s1.map Api.Instr.c)), (4, .bool false)] [] ?_ ?_
  · refine st ?_
    simp [q4]
  refine condF rfl rfl ?_
  refine awp_skip ?_
  refine seq_eq ?_
  obtain ⟨q7, q8⟩ := clC_ok h
  have q9 := clC_row (Api.Instr.c) r
  try simp at q9
  refine cut 8 0 [(2, .msl 0 3 r.length)] [row Api.Instr.c r] ?_ ?_
  · refine st ?_
    simp [q7, q8, q9]
    refine empR ?_
    simp [q7, q8, q9]
  refine awp_ret ?_
  simp
theorem setF {l : List AV} {j : Nat} {x : AV} (h : j < l.length) : (l.set j x).drop j = x :: l.drop (j + 1) ∧ (l.set j x)[j]? = some x ∧ ∀ hi : j < (l.set j x).length, (l.set j x)[j]'hi = x := by
  refine ⟨?_, List.getElem?_set_self h, fun hi => List.getElem_set_self ..⟩
  rw [List.drop_eq_getElem_cons (by simpa using h), List.getElem_set_self, List.drop_set_of_lt (by omega)]
theorem row3 {l : List Api.Instr} {i : Nat} {x : Api.Instr} (h : l[i]? = some x) (y : Api.Instr) : (((row Api.Instr.c l).set (i * 3) (.int .i64 y.Op)).set (i * 3 + 1) (.int .i64 y.A)).set (i * 3 + 1 + 1) (.int .i64 y.B) = row Api.Instr.c (l.set i y) := by
  have hi := (List.getElem?_eq_some_iff.1 h).1
  have h1 := row_set rc_Api_Instr (x' := ⟨y.Op, x.A, x.B⟩) (y := .int .i64 y.Op) (j := 0) h rfl (by decide)
  have h2 := row_set rc_Api_Instr (l := l.set i ⟨y.Op, x.A, x.B⟩) (i := i) (x' := ⟨y.Op, y.A, x.B⟩) (y := .int .i64 y.A) (j := 1) (List.getElem?_set_self hi) rfl (by decide)
  have h3 := row_set rc_Api_Instr (l := l.set i ⟨y.Op, y.A, x.B⟩) (i := i) (x' := ⟨y.Op, y.A, y.B⟩) (y := .int .i64 y.B) (j := 2) (List.getElem?_set_self hi) rfl (by decide)
  rw [Nat.add_zero] at h1
  rw [h1, h2, List.set_set, show i * 3 + 1 + 1 = i * 3 + 2 from rfl, h3, List.set_set]
theorem fzL_set (b : Nat) (blk l : List AV) (j : Nat) (x : AV) : AV.fzL b blk (l.set j x) = (AV.fzL b blk l).set j (x.fz b blk) := by rw [fzL_eq, fzL_eq, List.map_set]
theorem okFzL_set {b : Nat} {blk : List AV} {x : AV} (hx : okFz b blk x = true) : ∀ {l : List AV} {j : Nat}, okFzL b blk l = true → okFzL b blk (l.set j x) = true
  | [], j, h => rfl
  | y :: l, 0, h => by simp only [okFzL, Bool.and_eq_true, List.set_cons_zero] at h ⊢; exact ⟨hx, h.2⟩
  | y :: l, j + 1, h => by simp only [okFzL, Bool.and_eq_true, List.set_cons_succ] at h ⊢; exact ⟨h.1, okFzL_set hx h.2⟩
theorem law48_VerifyDead_ok (fuel : Nat) (p1 : Api.Program) (n2 : Int) (by3 : Api.Instr) (r0 : Bool) (h : M.law48_VerifyDead fuel p1 n2 by3 = some r0) : Pure Try.prog 5 [.agg [.sl (p1.Funs.map Api.Fun.c), .sl (p1.Texts.map cS), .int .i64 p1.Main], .int .i64 n2, .agg [.int .i64 by3.Op, .int .i64 by3.A, .int .i64 by3.B]] (.bool r0) := by
  rw [M.law48_VerifyDead] at h
  refine pure_of_body Try.func5 (by rfl) (by rfl) (by simp) (by simp) (by simp) ?_
  refine cut 149 0 [(1, .int .i64 n2), (3, .mptr 0 0), (5, .mptr 1 0)] [p1.c, by3.c] ?_ ?_
  · refine st ?_
    simp
  obtain ⟨v1, a1, h⟩ := bs h
  refine awp_seq ?_
  refine cut 149 0 [(1, .int .i64 n2), (3, .mptr 0 0), (5, .mptr 1 0), (20, .bool (!v1))] [p1.c, by3.c] ?_ ?_
  · refine st ?_
    simp
    refine callPure (law48_awake_ok fuel v1 a1) (by simp) rfl ?_
    simp
  refine spc h rfl (fun g1 h => ?_) fun g1 h => ?_
  · cases h
    refine cut 149 0 [(6, .bool false)] [] ?_ ?_
    · refine st ?_
      simp
    refine awp_ret ?_
    refine ret_seq ?_
    simp
  refine awp_skip ?_
  refine seq_eq ?_
  obtain ⟨v2, a2, h⟩ := bs h
  refine awp_seq ?_
  refine cut 149 0 [(1, .int .i64 n2), (3, .mptr 0 0), (5, .mptr 1 0), (22, .bool v2)] [p1.c, by3.c] ?_ ?_
  · refine st ?_
    simp
    refine callPure (law48_big_ok fuel p1 v2 a2) (by simp) rfl ?_
    simp
  refine spc h rfl (fun g1 h => ?_) fun g1 h => ?_
  · cases h
    refine cut 149 0 [(6, .bool true)] [] ?_ ?_
    · refine st ?_
      simp
    refine awp_ret ?_
    refine ret_seq ?_
    simp
  refine awp_skip ?_
  refine seq_eq ?_
  obtain ⟨all, l3, h⟩ := bs h
  refine cut 149 0 [(1, .int .i64 n2), (3, .mptr 0 0), (5, .mptr 1 0), (7, .int .i64 0)] [p1.c, by3.c] ?_ ?_
  · refine st ?_
    simp
  refine awp_seq ?_
  refine cut 149 0 [(1, .int .i64 n2), (3, .mptr 0 0), (5, .mptr 1 0), (7, .int .i64 0), (25, .int .i64 (p1.Funs.length : Int)), (26, .int .i64 0)] [p1.c, by3.c] ?_ ?_
  · refine st ?_
    simp
  refine awp_block ?_
  refine awp_inv (fun z : Nat × Int × Nat => mkS 149 0 [(1, .int .i64 n2), (3, .mptr 0 0), (5, .mptr 1 0), (7, .int .i64 z.2.1), (25, .int .i64 (p1.Funs.length : Int)), (26, .int .i64 ((z.2.2 : Nat) : Int))] [p1.c, by3.c]) (fun z => M.law48_VerifyDead_l1 fuel p1 z.1 z.2.1 z.2.2 = some all) (fun z => z.1) (fuel, 0, 0) l3 (le_mkS (by simp)) ?_
  rintro ⟨k, al, i⟩ l4
  dsimp only at l4 ⊢
  cases k with
  | zero => rw [M.law48_VerifyDead_l1] at l4; cases l4
  | succ k =>
  rw [M.law48_VerifyDead_l1] at l4
  refine cut 149 0 [(1, .int .i64 n2), (3, .mptr 0 0), (5, .mptr 1 0), (7, .int .i64 al), (25, .int .i64 (p1.Funs.length : Int)), (26, .int .i64 ((i : Nat) : Int)), (27, .bool (ltI ((i : Nat) : Int) (p1.Funs.length : Int)))] [p1.c, by3.c] ?_ ?_
  · refine st ?_
    simp
  refine awp_seq ?_
  refine spc l4 rfl (fun g5 l4 => ?_) fun g5 l4 => ?_
  · have c5 := ltT g5
    refine awp_skip ?_
    refine seq_eq ?_
    refine awp_seq ?_
    refine awp_block ?_
    refine cut 149 0 [(1, .int .i64 n2), (3, .mptr 0 0), (5, .mptr 1 0), (7, .int .i64 al), (8, .int .i64 ((i : Nat) : Int)), (25, .int .i64 (p1.Funs.length : Int)), (26, .int .i64 ((i : Nat) : Int))] [p1.c, by3.c] ?_ ?_
    · refine st ?_
      simp
    obtain ⟨e, q6, l4⟩ := bs l4
    refine cut 149 0 [(1, .int .i64 n2), (3, .mptr 0 0), (5, .mptr 1 0), (7, .int .i64 al), (9, .int .i64 e), (25, .int .i64 (p1.Funs.length : Int)), (26, .int .i64 ((i : Nat) : Int))] [p1.c, by3.c] ?_ ?_
    · refine st ?_
      simp
      refine callPure (verify_Fun_ok fuel p1 _ e q6) (by simp) rfl ?_
      simp
    refine cut 149 0 [(1, .int .i64 n2), (3, .mptr 0 0), (5, .mptr 1 0), (7, .int .i64 al), (9, .int .i64 e), (25, .int .i64 (p1.Funs.length : Int)), (26, .int .i64 ((i : Nat) : Int)), (37, .bool ((!(eqI e 0)) && (eqI al 0)))] [p1.c, by3.c] ?_ ?_
    · rcases tf (eqI e 0) with g6 | g6
      · refine st ?_
        simp [g6]
      refine st ?_
      simp [g6]
    refine spc l4 rfl (fun g7 l4 => ?_) fun g7 l4 => ?_
    · refine last 149 0 [(1, .int .i64 n2), (3, .mptr 0 0), (5, .mptr 1 0), (7, .int .i64 e), (25, .int .i64 (p1.Funs.length : Int)), (26, .int .i64 ((i : Nat) : Int))] [p1.c, by3.c] ?_ fun zz hs => ?_
      · refine st ?_
        simp
      refine blk_n ?_
      refine seq_le ?_ hs
      refine factI 25 rfl fun f61 => ?_
      have q16 : Rng .i64 (((i : Nat) : Int) + 1) := by simp at f61; simp only [Rng, inR]; omega
      try simp at q16
      refine last 149 0 [(1, .int .i64 n2), (3, .mptr 0 0), (5, .mptr 1 0), (7, .int .i64 e), (25, .int .i64 (p1.Funs.length : Int)), (26, .int .i64 ((i + 1 : Nat) : Int))] [p1.c, by3.c] ?_ fun zz hs => ?_
      · refine st ?_
        simp [q16]
      exact ⟨(k, e, i + 1), hs, l4, by simp⟩
    refine awp_skip ?_
    refine blk_n ?_
    refine seq_le (t := mkS 149 0 [(1, .int .i64 n2), (3, .mptr 0 0), (5, .mptr 1 0), (7, .int .i64 al), (25, .int .i64 (p1.Funs.length : Int)), (26, .int .i64 ((i : Nat) : Int))] [p1.c, by3.c]) ?_ (le_mkS (by simp))
    refine factI 25 rfl fun f61 => ?_
    have q16 : Rng .i64 (((i : Nat) : Int) + 1) := by simp at f61; simp only [Rng, inR]; omega
    try simp at q16
    refine last 149 0 [(1, .int .i64 n2), (3, .mptr 0 0), (5, .mptr 1 0), (7, .int .i64 al), (25, .int .i64 (p1.Funs.length : Int)), (26, .int .i64 ((i + 1 : Nat) : Int))] [p1.c, by3.c] ?_ fun zz hs => ?_
    · refine st ?_
      simp [q16]
    exact ⟨(k, al, i + 1), hs, l4, by simp⟩
  cases l4
  refine awp_exit ?_
  refine exit_seq ?_
  refine exit_seq ?_
  refine exit_blk ?_
  refine seq_le (t := mkS 149 0 [(1, .int .i64 n2), (3, .mptr 0 0), (5, .mptr 1 0), (7, .int .i64 all)] [p1.c, by3.c]) ?_ (le_mkS (by simp))
  obtain ⟨v42, a42, h⟩ := bs h
  obtain ⟨b48, a48, h⟩ := bs h
  obtain ⟨b55, a55, h⟩ := bs h
  refine awp_seq ?_
  refine cut 149 0 [(1, .int .i64 n2), (3, .mptr 0 0), (5, .mptr 1 0), (55, .bool b55)] [p1.c, by3.c] ?_ ?_
  · refine st ?_
    simp
    refine callPure (bytecode_Valid_ok fuel p1 v42 a42) (by simp) rfl ?_
    rcases sp a48 with ⟨g1, a48⟩ | ⟨g1, a48⟩
    · obtain ⟨c, c1, a48⟩ := bs a48
      obtain rfl := oi a48
      simp [g1]
      refine callPure (verify_Check_ok fuel p1 c c1) (by simp) rfl ?_
      rcases sp a55 with ⟨g2, a55⟩ | ⟨g2, a55⟩
      · obtain rfl := oi a55
        simp at g2
        simp [g2]
      · obtain ⟨e, e1, a55⟩ := bs a55
        obtain rfl := oi a55
        simp at g2
        simp [g2]
        refine callPure (verify_Fun_ok fuel p1 _ e e1) (by simp) rfl ?_
        simp
    · obtain rfl := oi a48
      simp [g1]
      obtain ⟨e, e1, a55⟩ := bs a55
      obtain rfl := oi a55
      refine callPure (verify_Fun_ok fuel p1 _ e e1) (by simp) rfl ?_
      simp
  refine spc h rfl (fun g1 h => ?_) fun g1 h => ?_
  · cases h
    refine cut 149 0 [(6, .bool false)] [] ?_ ?_
    · refine st ?_
      simp
    refine awp_ret ?_
    refine ret_seq ?_
    simp
  refine awp_skip ?_
  refine seq_eq ?_
  obtain ⟨r, a3, h⟩ := bs h
  obtain ⟨d, a4, h⟩ := bs h
  refine cut 149 0 [(1, .int .i64 n2), (3, .mptr 0 0), (5, .mptr 1 0), (10, .sl (r.1.map cB)), (11, .int .i64 r.2)] [p1.c, by3.c] ?_ ?_
  · refine st ?_
    simp
    refine callPure (verify_Reached_ok fuel p1 n2 r a3) (by simp) rfl ?_
    simp
  refine cut 149 0 [(1, .int .i64 n2), (3, .mptr 0 0), (5, .mptr 1 0), (10, .sl (r.1.map cB)), (11, .int .i64 r.2), (12, .sl (d.1.map (cI .i64))), (13, .int .i64 d.2)] [p1.c, by3.c] ?_ ?_
  · refine st ?_
    simp
    refine callPure (verify_Depths_ok fuel p1 n2 d a4) (by simp) rfl ?_
    simp
  refine awp_seq ?_
  refine cut 149 0 [(1, .int .i64 n2), (3, .mptr 0 0), (5, .mptr 1 0), (10, .sl (r.1.map cB)), (11, .int .i64 r.2), (12, .sl (d.1.map (cI .i64))), (13, .int .i64 d.2), (69, .bool (!(eqI r.2 0)))] [p1.c, by3.c] ?_ ?_
  · refine st ?_
    simp
  refine spc h rfl (fun g1 h => ?_) fun g1 h => ?_
  · cases h
    refine cut 149 0 [(6, .bool (((eqI d.2 r.2) && (eqI (r.1.length : Int) 0)) && (eqI (d.1.length : Int) 0)))] [] ?_ ?_
    · rcases tf (eqI d.2 r.2) with g2 | g2
      · rcases tf (eqI (r.1.length : Int) 0) with g3 | g3
        · refine st ?_
          simp [g2, g3]
        refine st ?_
        simp [g2, g3]
      refine st ?_
      simp [g2]
    refine awp_ret ?_
    refine ret_seq ?_
    simp
  refine awp_skip ?_
  refine seq_eq ?_
  obtain ⟨fs, a5, h⟩ := bs h
  obtain ⟨u6, a6, h⟩ := bs h
  obtain ⟨f, a7, h⟩ := bs h
  obtain ⟨f0, a8, h⟩ := bs h
  obtain ⟨code, a9, h⟩ := bs h
  refine cut 149 0 [(1, .int .i64 n2), (3, .mptr 0 0), (5, .mptr 1 0), (10, .sl (r.1.map cB)), (12, .sl (d.1.map (cI .i64))), (13, .int .i64 d.2), (14, .mptr 2 0)] [p1.c, by3.c, p1.c] ?_ ?_
  · refine st ?_
    simp
  refine cut 149 0 [(1, .int .i64 n2), (3, .mptr 0 0), (5, .mptr 1 0), (10, .sl (r.1.map cB)), (12, .sl (d.1.map (cI .i64))), (13, .int .i64 d.2), (14, .mptr 2 0)] [p1.c, by3.c, [.msl 3 4 fs.length, .sl (p1.Texts.map cS), .int .i64 p1.Main], row Api.Fun.c fs] ?_ ?_
  · refine st ?_
    simp
    have r17 := (slices_Clone_api_Fun_ok p1.Funs fs a5).frame [] [p1.c, by3.c, p1.c] (by simp)
    try simp at r17
    refine callRaw r17 (by simp) rfl ?_
    simp
  have r20 := (slices_Clone_api_Instr_ok f.Code code a9).frame [] [p1.c, by3.c, [.msl 3 4 fs.length, .sl (p1.Texts.map cS), .int .i64 p1.Main], row Api.Fun.c fs] (by simp [AV.underL, AV.under])
  try simp at r20
  have q1 := (ixC_ok a6)
  obtain ⟨q2, q3⟩ := idx_ok a7
  have q4 := idx_lt q3
  have q5 := getE q3
  have q6 : n2.toNat * 4 + 3 + 1 ≤ fs.length * 4 := by have := (List.getElem?_eq_some_iff.1 a8).1; omega
  have q7 : n2.toNat + 1 ≤ fs.length := by omega
  refine cut 149 0 [(1, .int .i64 n2), (3, .mptr 0 0), (5, .mptr 1 0), (10, .sl (r.1.map cB)), (12, .sl (d.1.map (cI .i64))), (13, .int .i64 d.2), (14, .mptr 2 0)] [p1.c, by3.c, [.msl 3 4 fs.length, .sl (p1.Texts.map cS), .int .i64 p1.Main], (row Api.Fun.c fs).set (n2.toNat * 4 + 3) (.msl 4 3 code.length), row Api.Instr.c code] ?_ ?_
  · refine awp_region_free mixed 10 (fun ℓ z => z.n = 149 ∧ z.base = 0 ∧ (∀ t, z.loans t = none) ∧ (ℓ 9 = false → z.blocks = [p1.c, by3.c, [.msl 3 4 fs.length, .sl (p1.Texts.map cS), .int .i64 p1.Main], row Api.Fun.c fs]) ∧ (ℓ 9 = true → z.blocks = [p1.c, by3.c, [.msl 3 4 fs.length, .sl (p1.Texts.map cS), .int .i64 p1.Main], row Api.Fun.c fs, row Api.Instr.c code]) ∧ z.get 1 = .int .i64 n2 ∧ z.get 3 = .mptr 0 0 ∧ z.get 5 = .mptr 1 0 ∧ z.get 10 = .sl (r.1.map cB) ∧ z.get 12 = .sl (d.1.map (cI .i64)) ∧ z.get 13 = .int .i64 d.2 ∧ z.get 14 = .mptr 2 0 ∧ (ℓ 0 = true → z.get 88 = .mptr 2 0) ∧ (ℓ 1 = true → z.get 89 = .msl 3 4 fs.length) ∧ (ℓ 2 = true → z.get 90 = .int .i64 n2) ∧ (ℓ 3 = true → z.get 91 = .mptr 0 0) ∧ (ℓ 4 = true → z.get 92 = .sl (p1.Funs.map Api.Fun.c)) ∧ (ℓ 5 = true → z.get 93 = .int .i64 n2) ∧ (ℓ 6 = true → z.get 94 = .cptr [.int .i64 f.Captures, .int .i64 f.Locals, .int .i64 f.Depth, .sl (f.Code.map Api.Instr.c)]) ∧ (ℓ 7 = true → z.get 95 = .cptr [.sl (f.Code.map Api.Instr.c)]) ∧ (ℓ 8 = true → z.get 96 = .sl (f.Code.map Api.Instr.c)) ∧ (ℓ 9 = true → z.get 97 = .msl 4 3 code.length)) (by decide) (by simp) ?_ ?_
    · refine ⟨?_, ?_, ?_, ?_, ?_, ?_, ?_, ?_, ?_, ?_, trivial⟩
      · intro ℓ z hL he hI
        obtain ⟨n1, n2_, n3, b0, b1, w1, w3, w5, w10, w12, w13, w14, v0, v1, v2, v3, v4, v5, v6, v7, v8, v9⟩ := hI
        try simp at hL
        cases hc : ℓ 9 with
        | false =>
          have hk := b0 hc
          simp [hk, hc, q1, q2, q3, q4, q5, q6, n1, n2_, n3, w1, w3, w5, w10, w12, w13, w14, v0, v1, v2, v3, v4, v5, v6, v7, v8, v9]
          repeat' (first | exact b0 | exact b1 | exact v0 | exact v1 | exact v2 | exact v3 | exact v4 | exact v5 | exact v6 | exact v7 | exact v8 | exact v9 | refine And.intro ?_ ?_)
        | true =>
          have hk := b1 hc
          simp [hk, hc, q1, q2, q3, q4, q5, q6, n1, n2_, n3, w1, w3, w5, w10, w12, w13, w14, v0, v1, v2, v3, v4, v5, v6, v7, v8, v9]
          repeat' (first | exact b0 | exact b1 | exact v0 | exact v1 | exact v2 | exact v3 | exact v4 | exact v5 | exact v6 | exact v7 | exact v8 | exact v9 | refine And.intro ?_ ?_)
      · intro ℓ z hL he hI
        obtain ⟨n1, n2_, n3, b0, b1, w1, w3, w5, w10, w12, w13, w14, v0, v1, v2, v3, v4, v5, v6, v7, v8, v9⟩ := hI
        replace v0 := v0 ((List.all_eq_true.1 he) 0 (by decide))
        try simp at hL
        cases hc : ℓ 9 with
        | false =>
          have hk := b0 hc
          simp [hk, hc, q1, q2, q3, q4, q5, q6, n1, n2_, n3, w1, w3, w5, w10, w12, w13, w14, v0, v1, v2, v3, v4, v5, v6, v7, v8, v9]
          repeat' (first | exact b0 | exact b1 | exact v0 | exact v1 | exact v2 | exact v3 | exact v4 | exact v5 | exact v6 | exact v7 | exact v8 | exact v9 | refine And.intro ?_ ?_)
        | true =>
          have hk := b1 hc
          simp [hk, hc, q1, q2, q3, q4, q5, q6, n1, n2_, n3, w1, w3, w5, w10, w12, w13, w14, v0, v1, v2, v3, v4, v5, v6, v7, v8, v9]
          repeat' (first | exact b0 | exact b1 | exact v0 | exact v1 | exact v2 | exact v3 | exact v4 | exact v5 | exact v6 | exact v7 | exact v8 | exact v9 | refine And.intro ?_ ?_)
      · intro ℓ z hL he hI
        obtain ⟨n1, n2_, n3, b0, b1, w1, w3, w5, w10, w12, w13, w14, v0, v1, v2, v3, v4, v5, v6, v7, v8, v9⟩ := hI
        try simp at hL
        cases hc : ℓ 9 with
        | false =>
          have hk := b0 hc
          simp [hk, hc, q1, q2, q3, q4, q5, q6, n1, n2_, n3, w1, w3, w5, w10, w12, w13, w14, v0, v1, v2, v3, v4, v5, v6, v7, v8, v9]
          repeat' (first | exact b0 | exact b1 | exact v0 | exact v1 | exact v2 | exact v3 | exact v4 | exact v5 | exact v6 | exact v7 | exact v8 | exact v9 | refine And.intro ?_ ?_)
        | true =>
          have hk := b1 hc
          simp [hk, hc, q1, q2, q3, q4, q5, q6, n1, n2_, n3, w1, w3, w5, w10, w12, w13, w14, v0, v1, v2, v3, v4, v5, v6, v7, v8, v9]
          repeat' (first | exact b0 | exact b1 | exact v0 | exact v1 | exact v2 | exact v3 | exact v4 | exact v5 | exact v6 | exact v7 | exact v8 | exact v9 | refine And.intro ?_ ?_)
      · intro ℓ z hL he hI
        obtain ⟨n1, n2_, n3, b0, b1, w1, w3, w5, w10, w12, w13, w14, v0, v1, v2, v3, v4, v5, v6, v7, v8, v9⟩ := hI
        try simp at hL
        cases hc : ℓ 9 with
        | false =>
          have hk := b0 hc
          simp [hk, hc, q1, q2, q3, q4, q5, q6, n1, n2_, n3, w1, w3, w5, w10, w12, w13, w14, v0, v1, v2, v3, v4, v5, v6, v7, v8, v9]
          repeat' (first | exact b0 | exact b1 | exact v0 | exact v1 | exact v2 | exact v3 | exact v4 | exact v5 | exact v6 | exact v7 | exact v8 | exact v9 | refine And.intro ?_ ?_)
        | true =>
          have hk := b1 hc
          simp [hk, hc, q1, q2, q3, q4, q5, q6, n1, n2_, n3, w1, w3, w5, w10, w12, w13, w14, v0, v1, v2, v3, v4, v5, v6, v7, v8, v9]
          repeat' (first | exact b0 | exact b1 | exact v0 | exact v1 | exact v2 | exact v3 | exact v4 | exact v5 | exact v6 | exact v7 | exact v8 | exact v9 | refine And.intro ?_ ?_)
      · intro ℓ z hL he hI
        obtain ⟨n1, n2_, n3, b0, b1, w1, w3, w5, w10, w12, w13, w14, v0, v1, v2, v3, v4, v5, v6, v7, v8, v9⟩ := hI
        replace v3 := v3 ((List.all_eq_true.1 he) 3 (by decide))
        try simp at hL
        cases hc : ℓ 9 with
        | false =>
          have hk := b0 hc
          simp [hk, hc, q1, q2, q3, q4, q5, q6, n1, n2_, n3, w1, w3, w5, w10, w12, w13, w14, v0, v1, v2, v3, v4, v5, v6, v7, v8, v9]
          repeat' (first | exact b0 | exact b1 | exact v0 | exact v1 | exact v2 | exact v3 | exact v4 | exact v5 | exact v6 | exact v7 | exact v8 | exact v9 | refine And.intro ?_ ?_)
        | true =>
          have hk := b1 hc
          simp [hk, hc, q1, q2, q3, q4, q5, q6, n1, n2_, n3, w1, w3, w5, w10, w12, w13, w14, v0, v1, v2, v3, v4, v5, v6, v7, v8, v9]
          repeat' (first | exact b0 | exact b1 | exact v0 | exact v1 | exact v2 | exact v3 | exact v4 | exact v5 | exact v6 | exact v7 | exact v8 | exact v9 | refine And.intro ?_ ?_)
      · intro ℓ z hL he hI
        obtain ⟨n1, n2_, n3, b0, b1, w1, w3, w5, w10, w12, w13, w14, v0, v1, v2, v3, v4, v5, v6, v7, v8, v9⟩ := hI
        try simp at hL
        cases hc : ℓ 9 with
        | false =>
          have hk := b0 hc
          simp [hk, hc, q1, q2, q3, q4, q5, q6, n1, n2_, n3, w1, w3, w5, w10, w12, w13, w14, v0, v1, v2, v3, v4, v5, v6, v7, v8, v9]
          repeat' (first | exact b0 | exact b1 | exact v0 | exact v1 | exact v2 | exact v3 | exact v4 | exact v5 | exact v6 | exact v7 | exact v8 | exact v9 | refine And.intro ?_ ?_)
        | true =>
          have hk := b1 hc
          simp [hk, hc, q1, q2, q3, q4, q5, q6, n1, n2_, n3, w1, w3, w5, w10, w12, w13, w14, v0, v1, v2, v3, v4, v5, v6, v7, v8, v9]
          repeat' (first | exact b0 | exact b1 | exact v0 | exact v1 | exact v2 | exact v3 | exact v4 | exact v5 | exact v6 | exact v7 | exact v8 | exact v9 | refine And.intro ?_ ?_)
      · intro ℓ z hL he hI
        obtain ⟨n1, n2_, n3, b0, b1, w1, w3, w5, w10, w12, w13, w14, v0, v1, v2, v3, v4, v5, v6, v7, v8, v9⟩ := hI
        replace v4 := v4 ((List.all_eq_true.1 he) 4 (by decide))
        replace v5 := v5 ((List.all_eq_true.1 he) 5 (by decide))
        try simp at hL
        cases hc : ℓ 9 with
        | false =>
          have hk := b0 hc
          simp [hk, hc, q1, q2, q3, q4, q5, q6, n1, n2_, n3, w1, w3, w5, w10, w12, w13, w14, v0, v1, v2, v3, v4, v5, v6, v7, v8, v9]
          repeat' (first | exact b0 | exact b1 | exact v0 | exact v1 | exact v2 | exact v3 | exact v4 | exact v5 | exact v6 | exact v7 | exact v8 | exact v9 | refine And.intro ?_ ?_)
        | true =>
          have hk := b1 hc
          simp [hk, hc, q1, q2, q3, q4, q5, q6, n1, n2_, n3, w1, w3, w5, w10, w12, w13, w14, v0, v1, v2, v3, v4, v5, v6, v7, v8, v9]
          repeat' (first | exact b0 | exact b1 | exact v0 | exact v1 | exact v2 | exact v3 | exact v4 | exact v5 | exact v6 | exact v7 | exact v8 | exact v9 | refine And.intro ?_ ?_)
      · intro ℓ z hL he hI
        obtain ⟨n1, n2_, n3, b0, b1, w1, w3, w5, w10, w12, w13, w14, v0, v1, v2, v3, v4, v5, v6, v7, v8, v9⟩ := hI
        replace v6 := v6 ((List.all_eq_true.1 he) 6 (by decide))
        try simp at hL
        cases hc : ℓ 9 with
        | false =>
          have hk := b0 hc
          simp [hk, hc, q1, q2, q3, q4, q5, q6, n1, n2_, n3, w1, w3, w5, w10, w12, w13, w14, v0, v1, v2, v3, v4, v5, v6, v7, v8, v9]
          repeat' (first | exact b0 | exact b1 | exact v0 | exact v1 | exact v2 | exact v3 | exact v4 | exact v5 | exact v6 | exact v7 | exact v8 | exact v9 | refine And.intro ?_ ?_)
        | true =>
          have hk := b1 hc
          simp [hk, hc, q1, q2, q3, q4, q5, q6, n1, n2_, n3, w1, w3, w5, w10, w12, w13, w14, v0, v1, v2, v3, v4, v5, v6, v7, v8, v9]
          repeat' (first | exact b0 | exact b1 | exact v0 | exact v1 | exact v2 | exact v3 | exact v4 | exact v5 | exact v6 | exact v7 | exact v8 | exact v9 | refine And.intro ?_ ?_)
      · intro ℓ z hL he hI
        obtain ⟨n1, n2_, n3, b0, b1, w1, w3, w5, w10, w12, w13, w14, v0, v1, v2, v3, v4, v5, v6, v7, v8, v9⟩ := hI
        replace v7 := v7 ((List.all_eq_true.1 he) 7 (by decide))
        try simp at hL
        cases hc : ℓ 9 with
        | false =>
          have hk := b0 hc
          simp [hk, hc, q1, q2, q3, q4, q5, q6, n1, n2_, n3, w1, w3, w5, w10, w12, w13, w14, v0, v1, v2, v3, v4, v5, v6, v7, v8, v9]
          repeat' (first | exact b0 | exact b1 | exact v0 | exact v1 | exact v2 | exact v3 | exact v4 | exact v5 | exact v6 | exact v7 | exact v8 | exact v9 | refine And.intro ?_ ?_)
        | true =>
          have hk := b1 hc
          simp [hk, hc, q1, q2, q3, q4, q5, q6, n1, n2_, n3, w1, w3, w5, w10, w12, w13, w14, v0, v1, v2, v3, v4, v5, v6, v7, v8, v9]
          repeat' (first | exact b0 | exact b1 | exact v0 | exact v1 | exact v2 | exact v3 | exact v4 | exact v5 | exact v6 | exact v7 | exact v8 | exact v9 | refine And.intro ?_ ?_)
      · intro ℓ z hL he hI
        obtain ⟨n1, n2_, n3, b0, b1, w1, w3, w5, w10, w12, w13, w14, v0, v1, v2, v3, v4, v5, v6, v7, v8, v9⟩ := hI
        replace v8 := v8 ((List.all_eq_true.1 he) 8 (by decide))
        try simp at hL
        replace b0 := b0 hL
        simp [n1, n2_, n3, w1, w3, w5, w10, w12, w13, w14, v0, v1, v2, v3, v4, v5, v6, v7, v8, v9]
        refine callRaw r20 b0 rfl ?_
        simp [n1, n2_, n3, w1, w3, w5, w10, w12, w13, w14, v0, v1, v2, v3, v4, v5, v6, v7, v8, v9]
        repeat' (first | exact b0 | exact b1 | exact v0 | exact v1 | exact v2 | exact v3 | exact v4 | exact v5 | exact v6 | exact v7 | exact v8 | exact v9 | refine And.intro ?_ ?_)
    · rintro ℓ z hall ⟨n1, n2_, n3, b0, b1, w1, w3, w5, w10, w12, w13, w14, v0, v1, v2, v3, v4, v5, v6, v7, v8, v9⟩
      replace v0 := v0 (hall 0 (by decide))
      replace v1 := v1 (hall 1 (by decide))
      replace v2 := v2 (hall 2 (by decide))
      replace v3 := v3 (hall 3 (by decide))
      replace v4 := v4 (hall 4 (by decide))
      replace v5 := v5 (hall 5 (by decide))
      replace v6 := v6 (hall 6 (by decide))
      replace v7 := v7 (hall 7 (by decide))
      replace v8 := v8 (hall 8 (by decide))
      replace v9 := v9 (hall 9 (by decide))
      replace b1 := b1 (hall 9 (by decide))
      refine ⟨z, .refl z, ?_⟩
      simp [b1, q1, q2, q3, q4, q5, q6, n1, n2_, n3, w1, w3, w5, w10, w12, w13, w14, v0, v1, v2, v3, v4, v5, v6, v7, v8, v9]
  have q8 := setF (l := row Api.Fun.c fs) (j := n2.toNat * 4 + 3) (x := .msl 4 3 code.length) (by rw [rlen_Api_Fun]; omega)
  refine awp_seq ?_
  refine cut 149 0 [(1, .int .i64 n2), (3, .mptr 0 0), (5, .mptr 1 0), (10, .sl (r.1.map cB)), (12, .sl (d.1.map (cI .i64))), (14, .mptr 2 0), (113, .bool ((!(eqI d.2 0)) || (!(eqI (r.1.length : Int) (code.length : Int)))))] [p1.c, by3.c, [.msl 3 4 fs.length, .sl (p1.Texts.map cS), .int .i64 p1.Main], (row Api.Fun.c fs).set (n2.toNat * 4 + 3) (.msl 4 3 code.length), row Api.Instr.c code] ?_ ?_
  · rcases tf (eqI d.2 0) with g2 | g2
    · refine st ?_
      simp [g2, q1, q7, q6, q8]
    refine st ?_
    simp [g2]
  refine spc h rfl (fun g1 h => ?_) fun g1 h => ?_
  · cases h
    refine cut 149 0 [(6, .bool false)] [] ?_ ?_
    · refine st ?_
      simp
    refine awp_ret ?_
    refine ret_seq ?_
    simp
  refine awp_skip ?_
  refine seq_eq ?_
  obtain ⟨code2, l9, h⟩ := bs h
  refine awp_seq ?_
  refine cut 149 0 [(1, .int .i64 n2), (5, .mptr 1 0), (12, .sl (d.1.map (cI .i64))), (14, .mptr 2 0), (114, .sl (r.1.map cB)), (115, .int .i64 (r.1.length : Int)), (116, .int .i64 0)] [p1.c, by3.c, [.msl 3 4 fs.length, .sl (p1.Texts.map cS), .int .i64 p1.Main], (row Api.Fun.c fs).set (n2.toNat * 4 + 3) (.msl 4 3 code.length), row Api.Instr.c code] ?_ ?_
  · refine st ?_
    simp
  refine awp_block ?_
  refine awp_inv (fun z : Nat × (List Api.Instr) => mkS 149 0 [(1, .int .i64 n2), (5, .mptr 1 0), (12, .sl (d.1.map (cI .i64))), (14, .mptr 2 0), (114, .sl (r.1.map cB)), (115, .int .i64 (r.1.length : Int)), (116, .int .i64 ((z.1 : Nat) : Int))] [p1.c, by3.c, [.msl 3 4 fs.length, .sl (p1.Texts.map cS), .int .i64 p1.Main], (row Api.Fun.c fs).set (n2.toNat * 4 + 3) (.msl 4 3 code.length), row Api.Instr.c z.2]) (fun z => M.law48_VerifyDead_l2 by3 (r.1.drop z.1) z.1 z.2 = some code2 ∧ z.2.length = code.length) (fun z => r.1.length - z.1) (0, code) ⟨l9, rfl⟩ (le_mkS (by simp)) ?_
  rintro ⟨i, ci⟩ ⟨l10, e10⟩
  dsimp only at l10 e10 ⊢
  refine cut 149 0 [(1, .int .i64 n2), (5, .mptr 1 0), (12, .sl (d.1.map (cI .i64))), (14, .mptr 2 0), (114, .sl (r.1.map cB)), (115, .int .i64 (r.1.length : Int)), (116, .int .i64 ((i : Nat) : Int)), (117, .bool (ltI ((i : Nat) : Int) (r.1.length : Int)))] [p1.c, by3.c, [.msl 3 4 fs.length, .sl (p1.Texts.map cS), .int .i64 p1.Main], (row Api.Fun.c fs).set (n2.toNat * 4 + 3) (.msl 4 3 code.length), row Api.Instr.c ci] ?_ ?_
  · refine st ?_
    simp
  refine awp_seq ?_
  cases hd : r.1.drop i with
  | nil =>
    have g11 := drop_nil hd
    rw [hd, M.law48_VerifyDead_l2] at l10
    cases l10
    refine condF rfl g11 ?_
    refine awp_exit ?_
    refine exit_seq ?_
    refine exit_seq ?_
    refine exit_blk ?_
    refine seq_le (t := mkS 149 0 [(1, .int .i64 n2), (12, .sl (d.1.map (cI .i64))), (14, .mptr 2 0)] [p1.c, by3.c, [.msl 3 4 fs.length, .sl (p1.Texts.map cS), .int .i64 p1.Main], (row Api.Fun.c fs).set (n2.toNat * 4 + 3) (.msl 4 3 code.length), row Api.Instr.c code2]) ?_ (le_mkS (by simp))
    have q20 : (row Api.Fun.c fs).set (n2.toNat * 4 + 3) (.sl (code2.map Api.Instr.c)) = row Api.Fun.c (fs.set n2.toNat ⟨f0.Captures, f0.Locals, f0.Depth, code2⟩) := row_set rc_Api_Fun (x' := ⟨f0.Captures, f0.Locals, f0.Depth, code2⟩) (y := .sl (code2.map Api.Instr.c)) (j := 3) a8 rfl (by decide)
    have q21 : (if code.length * 3 ≤ code2.length * 3 then AV.sl (chunk 3 code.length (row Api.Instr.c code2)) else AV.top) = .sl (code2.map Api.Instr.c) := by
      rw [if_pos (by omega), rchk_Api_Instr _ (by omega)]
    have hgl : (fs.set n2.toNat ⟨f0.Captures, f0.Locals, f0.Depth, code2⟩).length = fs.length := by simp
    generalize (fs.set n2.toNat ⟨f0.Captures, f0.Locals, f0.Depth, code2⟩) = gs at h q20 hgl
    refine awp_fz ?_ ?_
    · simp
      refine okFzL_set ?_ (by simp)
      simp [okFz, q21]
    refine awp_le (s' := mkS 149 0 [(1, .int .i64 n2), (12, .sl (d.1.map (cI .i64))), (14, .mptr 2 0)] [p1.c, by3.c, [.msl 3 4 fs.length, .sl (p1.Texts.map cS), .int .i64 p1.Main], row Api.Fun.c gs]) ?_ (le_mkS ?_)
    rotate_left
    · simp [fzL_set, q21, q20]
    refine awp_fz ?_ ?_
    · simp [← hgl]
    refine awp_le (s' := mkS 149 0 [(1, .int .i64 n2), (12, .sl (d.1.map (cI .i64))), (14, .mptr 2 0)] [p1.c, by3.c, (Api.Program.c ⟨gs, p1.Texts, p1.Main⟩)]) ?_ (le_mkS ?_)
    rotate_left
    · simp [← hgl]
    obtain ⟨u22, q22, h⟩ := bs h
    obtain ⟨v23, q23, h⟩ := bs h
    refine awp_seq ?_
    refine cut 149 0 [(1, .int .i64 n2), (12, .sl (d.1.map (cI .i64))), (14, .mptr 2 0), (135, .bool (!v23))] [p1.c, by3.c, (Api.Program.c ⟨gs, p1.Texts, p1.Main⟩)] ?_ ?_
    · refine st ?_
      simp
      refine callPure (ref46_Valid_ok fuel ⟨gs, p1.Texts, p1.Main⟩ v23 q23) (by simp) rfl ?_
      simp
    refine spc h rfl (fun g1 h => ?_) fun g1 h => ?_
    · cases h
      refine cut 149 0 [(6, .bool true)] [] ?_ ?_
      · refine st ?_
        simp
      refine awp_ret ?_
      refine ret_seq ?_
      simp
    refine awp_skip ?_
    refine seq_eq ?_
    obtain ⟨x24, q24, h⟩ := bs h
    refine cut 149 0 [(12, .sl (d.1.map (cI .i64))), (17, .sl (x24.1.map (cI .i64))), (18, .int .i64 x24.2)] [] ?_ ?_
    · refine st ?_
      simp
      refine callPure (verify_Depths_ok fuel ⟨gs, p1.Texts, p1.Main⟩ n2 x24 q24) (by simp) rfl ?_
      simp
    refine cut 149 0 [(6, .bool r0)] [] ?_ ?_
    · rcases sp h with ⟨g2, h⟩ | ⟨g2, h⟩
      · refine st ?_
        simp [g2]
        refine callPure (slices_Equal_int_ok fuel d.1 x24.1 r0 h) (by simp) rfl ?_
        simp
      · cases h
        refine st ?_
        simp [g2]
    refine awp_ret ?_
    simp
  | cons t ts =>
    obtain ⟨g11, q12, q13, c14⟩ := drop_cons hd
    rw [hd, M.law48_VerifyDead_l2] at l10
    refine condT rfl g11 ?_
    refine awp_skip ?_
    refine seq_eq ?_
    refine awp_seq ?_
    refine awp_block ?_
    refine cut 149 0 [(1, .int .i64 n2), (5, .mptr 1 0), (12, .sl (d.1.map (cI .i64))), (14, .mptr 2 0), (114, .sl (r.1.map cB)), (115, .int .i64 (r.1.length : Int)), (15, .int .i64 ((i : Nat) : Int)), (16, .bool t), (116, .int .i64 ((i : Nat) : Int))] [p1.c, by3.c, [.msl 3 4 fs.length, .sl (p1.Texts.map cS), .int .i64 p1.Main], (row Api.Fun.c fs).set (n2.toNat * 4 + 3) (.msl 4 3 code.length), row Api.Instr.c ci] ?_ ?_
    · refine st ?_
      simp [q12, c14]
    refine cut 149 0 [(1, .int .i64 n2), (5, .mptr 1 0), (12, .sl (d.1.map (cI .i64))), (14, .mptr 2 0), (114, .sl (r.1.map cB)), (115, .int .i64 (r.1.length : Int)), (15, .int .i64 ((i : Nat) : Int)), (116, .int .i64 ((i : Nat) : Int)), (122, .bool (!t))] [p1.c, by3.c, [.msl 3 4 fs.length, .sl (p1.Texts.map cS), .int .i64 p1.Main], (row Api.Fun.c fs).set (n2.toNat * 4 + 3) (.msl 4 3 code.length), row Api.Instr.c ci] ?_ ?_
    · refine st ?_
      simp
    refine spc l10 rfl (fun g15 l10 => ?_) fun g15 l10 => ?_
    · obtain ⟨u16, q16, l10⟩ := bs l10
      have q17 := ixC_ok q16
      have q18 : i < ci.length := by omega
      have q19 := row3 (List.getElem?_eq_getElem q18) by3
      have q21 : (i : Int) < code.length ∧ i < code.length ∧ i * 3 + 3 ≤ ci.length * 3 := by omega
      refine last 149 0 [(1, .int .i64 n2), (5, .mptr 1 0), (12, .sl (d.1.map (cI .i64))), (14, .mptr 2 0), (114, .sl (r.1.map cB)), (115, .int .i64 (r.1.length : Int)), (116, .int .i64 ((i : Nat) : Int))] [p1.c, by3.c, [.msl 3 4 fs.length, .sl (p1.Texts.map cS), .int .i64 p1.Main], (row Api.Fun.c fs).set (n2.toNat * 4 + 3) (.msl 4 3 code.length), row Api.Instr.c (ci.set i by3)] ?_ fun zz hs => ?_
      · refine awp_region_draw [4] mixed (n := 149) rfl (by rfl) ?_
        simp [q1, q7, q6, q8, q17, q21, q19]
      refine blk_n ?_
      refine seq_le ?_ hs
      refine factI 115 rfl fun f61 => ?_
      have q22 : Rng .i64 (((i : Nat) : Int) + 1) := by simp at f61; simp only [Rng, inR]; omega
      try simp at q22
      refine last 149 0 [(1, .int .i64 n2), (5, .mptr 1 0), (12, .sl (d.1.map (cI .i64))), (14, .mptr 2 0), (114, .sl (r.1.map cB)), (115, .int .i64 (r.1.length : Int)), (116, .int .i64 ((i + 1 : Nat) : Int))] [p1.c, by3.c, [.msl 3 4 fs.length, .sl (p1.Texts.map cS), .int .i64 p1.Main], (row Api.Fun.c fs).set (n2.toNat * 4 + 3) (.msl 4 3 code.length), row Api.Instr.c (ci.set i by3)] ?_ fun zz hs => ?_
      · refine st ?_
        simp [q22]
      exact ⟨(i + 1, ci.set i by3), hs, ⟨by rw [q13]; exact l10, by simp [e10]⟩, by show r.1.length - (i + 1) < r.1.length - i; omega⟩
    refine awp_skip ?_
    refine blk_n ?_
    refine seq_le (t := mkS 149 0 [(1, .int .i64 n2), (5, .mptr 1 0), (12, .sl (d.1.map (cI .i64))), (14, .mptr 2 0), (114, .sl (r.1.map cB)), (115, .int .i64 (r.1.length : Int)), (116, .int .i64 ((i : Nat) : Int))] [p1.c, by3.c, [.msl 3 4 fs.length, .sl (p1.Texts.map cS), .int .i64 p1.Main], (row Api.Fun.c fs).set (n2.toNat * 4 + 3) (.msl 4 3 code.length), row Api.Instr.c ci]) ?_ (le_mkS (by simp))
    refine factI 115 rfl fun f61 => ?_
    have q22 : Rng .i64 (((i : Nat) : Int) + 1) := by simp at f61; simp only [Rng, inR]; omega
    try simp at q22
    refine last 149 0 [(1, .int .i64 n2), (5, .mptr 1 0), (12, .sl (d.1.map (cI .i64))), (14, .mptr 2 0), (114, .sl (r.1.map cB)), (115, .int .i64 (r.1.length : Int)), (116, .int .i64 ((i + 1 : Nat) : Int))] [p1.c, by3.c, [.msl 3 4 fs.length, .sl (p1.Texts.map cS), .int .i64 p1.Main], (row Api.Fun.c fs).set (n2.toNat * 4 + 3) (.msl 4 3 code.length), row Api.Instr.c ci] ?_ fun zz hs => ?_
    · refine st ?_
      simp [q22]
    exact ⟨(i + 1, ci), hs, ⟨by rw [q13]; exact l10, e10⟩, by show r.1.length - (i + 1) < r.1.length - i; omega⟩
end Go.Proofs.Ythbjlmoaceaeeaa
set_option linter.unusedVariables false
set_option linter.unusedSimpArgs false
set_option maxRecDepth 100000
namespace Go.Proofs.Ythbjlmoaceaeeaa
open Go Go.Abs
theorem obind {α β : Type} (a : α) (f : α → Option β) : (some a).bind f = f a := Eq.trans (Option.bind_some a f) rfl
theorem chk64 {n : Int} (h1 : -9223372036854775808 ≤ n) (h2 : n ≤ 9223372036854775807) : chk .i64 n = some n := by rw [chk, if_pos]; exact ⟨h1, h2⟩
theorem app_some {α : Type} {b : Nat} {x y : List α} (h : 0 < b) (h2 : (x.length + y.length) * b ≤ 140737488355328) : app b x y = some (x ++ y) := by rw [app, if_pos ⟨h, h2⟩]
theorem idx_some {α : Type} {l : List α} {n : Int} {x : α} (h0 : 0 ≤ n) (h : l[n.toNat]? = some x) : idx l n = some x := by rw [idx, if_pos h0, h]
theorem ltI_t {a b : Int} (h : a < b) : ltI a b = true := decide_eq_true h
theorem ltI_f {a b : Int} (h : b ≤ a) : ltI a b = false := decide_eq_false (by omega)
theorem leI_t {a b : Int} (h : a ≤ b) : leI a b = true := decide_eq_true h
theorem leI_f {a b : Int} (h : b < a) : leI a b = false := decide_eq_false (by omega)
theorem eqI_t {a b : Int} (h : a = b) : eqI a b = true := decide_eq_true h
theorem eqI_f {a b : Int} (h : a ≠ b) : eqI a b = false := decide_eq_false h
theorem drop_split {α : Type} {s : List α} {i : Nat} (h : i < s.length) : ∃ x, s[i]? = some x ∧ s.drop i = x :: s.drop (i + 1) ∧ x ∈ s :=
  ⟨s[i], List.getElem?_eq_getElem h, List.drop_eq_getElem_cons h, List.getElem_mem h⟩
theorem idx_loop {α : Type} {s : List α} {P : α → Bool} {Q : α → Option Bool} {g : Nat → Nat → Option (Int ⊕ Unit)}
    (hg : ∀ k i, g (k + 1) i = if ltI ((i : Nat) : Int) (s.length : Int) then (s[i]?).bind fun x => (Q x).bind fun v => if v then some (.inl ((i : Nat) : Int)) else g k (i + 1) else some (.inr ()))
    (hQ : ∀ x ∈ s, Q x = some (P x)) : ∀ n k i, i + n = s.length → n < k → ∃ o, g k i = some o ∧ (((s.drop i).any P = true ∧ ∃ j : Nat, o = .inl (j : Int)) ∨ ((s.drop i).any P = false ∧ o = .inr ()))
  | 0, k, i, hi, hk => by
    obtain ⟨k, rfl⟩ : ∃ g, k = g + 1 := ⟨k - 1, by omega⟩
    rw [hg, ltI_f (by omega), List.drop_eq_nil_of_le (by omega)]
    exact ⟨_, rfl, .inr ⟨rfl, rfl⟩⟩
  | n + 1, k, i, hi, hk => by
    obtain ⟨k, rfl⟩ : ∃ g, k = g + 1 := ⟨k - 1, by omega⟩
    obtain ⟨x, h1, h2, h3⟩ := drop_split (s := s) (i := i) (by omega)
    rw [hg, ltI_t (by omega), if_pos rfl, h1, obind, hQ x h3, obind, h2, List.any_cons]
    cases hp : P x with
    | true => exact ⟨_, rfl, .inl ⟨rfl, i, rfl⟩⟩
    | false =>
      obtain ⟨o, o1, o2⟩ := idx_loop hg hQ n k (i + 1) (by omega) (by omega)
      exact ⟨o, by simpa using o1, by simpa using o2⟩
theorem cf_loop {α : Type} {s : List α} {P : α → Bool} {Q : α → Option Bool} {g : Nat → Nat → Option (Int ⊕ Unit)}
    (hg : ∀ k i, g (k + 1) i = if ltI ((i : Nat) : Int) (s.length : Int) then (s[i]?).bind fun x => (Q x).bind fun v => if v then some (.inl ((i : Nat) : Int)) else g k (i + 1) else some (.inr ()))
    (hQ : ∀ x ∈ s, Q x = some (P x)) {k : Nat} (hk : s.length < k) : (((g k 0).bind fun o => Sum.elim some (fun _ => some (-1)) o).bind fun v => some (leI 0 v)) = some (s.any P) := by
  obtain ⟨o, o1, o2⟩ := idx_loop hg hQ s.length k 0 (by omega) hk
  rw [o1, obind]
  rw [List.drop_zero] at o2
  rcases o2 with ⟨h1, j, rfl⟩ | ⟨h1, rfl⟩
  · rw [h1]; simp only [Sum.elim_inl, obind]; rw [leI_t (by omega)]
  · rw [h1]; rfl
theorem all_loop {α : Type} {s : List α} {P : α → Bool} {Q : Nat → α → Option Bool} {g : Nat → Nat → Option (Bool ⊕ Unit)}
    (hg : ∀ k i, g (k + 1) i = if ltI ((i : Nat) : Int) (s.length : Int) then (s[i]?).bind fun x => (Q i x).bind fun v => if !v then some (.inl false) else g k (i + 1) else some (.inr ()))
    (hQ : ∀ i x, s[i]? = some x → Q i x = some (P x)) : ∀ n k i, i + n = s.length → n < k → g k i = some (if (s.drop i).all P then .inr () else .inl false)
  | 0, k, i, hi, hk => by
    obtain ⟨k, rfl⟩ : ∃ g, k = g + 1 := ⟨k - 1, by omega⟩
    rw [hg, ltI_f (by omega), List.drop_eq_nil_of_le (by omega)]; rfl
  | n + 1, k, i, hi, hk => by
    obtain ⟨k, rfl⟩ : ∃ g, k = g + 1 := ⟨k - 1, by omega⟩
    obtain ⟨x, h1, h2, h3⟩ := drop_split (s := s) (i := i) (by omega)
    rw [hg, ltI_t (by omega), if_pos rfl, h1, obind, hQ i x h1, obind, h2, List.all_cons]
    cases hp : P x with
    | true => simpa using all_loop hg hQ n k (i + 1) (by omega) (by omega)
    | false => rfl
theorem alli_loop {α : Type} {s : List α} {P : Nat → α → Bool} {Q : Nat → α → Option Bool} {g : Nat → Nat → Option (Bool ⊕ Unit)}
    (hg : ∀ k i, g (k + 1) i = if ltI ((i : Nat) : Int) (s.length : Int) then (s[i]?).bind fun x => (Q i x).bind fun v => if !v then some (.inl false) else g k (i + 1) else some (.inr ()))
    (hQ : ∀ i x, s[i]? = some x → Q i x = some (P i x)) : ∀ n k i, i + n = s.length → n < k → g k i = some (if ((s.drop i).zipIdx i).all (fun p => P p.2 p.1) then .inr () else .inl false)
  | 0, k, i, hi, hk => by
    obtain ⟨k, rfl⟩ : ∃ g, k = g + 1 := ⟨k - 1, by omega⟩
    rw [hg, ltI_f (by omega), List.drop_eq_nil_of_le (by omega)]; rfl
  | n + 1, k, i, hi, hk => by
    obtain ⟨k, rfl⟩ : ∃ g, k = g + 1 := ⟨k - 1, by omega⟩
    obtain ⟨x, h1, h2, h3⟩ := drop_split (s := s) (i := i) (by omega)
    rw [hg, ltI_t (by omega), if_pos rfl, h1, obind, hQ i x h1, obind, h2, List.zipIdx_cons, List.all_cons]
    cases hp : P i x with
    | true => simpa only [Bool.not_true, Bool.false_eq_true, if_false, Bool.true_and] using alli_loop hg hQ n k (i + 1) (by omega) (by omega)
    | false => rfl
def okc (c : UInt8) : Bool := c == 10 || (decide (32 ≤ c.toNat) && decide (c.toNat ≤ 126))
theorem wb_M {c : UInt8} {b : List UInt8} (h : b.length + 1 ≤ 140737488355328) : M.strings_Builder_WriteByte c b = some (b ++ [c]) := by
  simp only [M.strings_Builder_WriteByte, M.strings_Builder_copyCheck, obind, app_some (b := 1) (x := b) (y := [c]) (by decide) (by simpa using h)]
theorem ws_M {s b : List UInt8} (h : b.length + s.length ≤ 140737488355328) : M.strings_Builder_WriteString s b = some ((s.length : Int), b ++ s) := by
  simp only [M.strings_Builder_WriteString, M.strings_Builder_copyCheck, obind, app_some (b := 1) (x := b) (y := s) (by decide) (by simpa using h)]
theorem vis_M (c : UInt8) : M.lexer_visible c = some (decide (32 ≤ c.toNat) && decide (c.toNat ≤ 126)) := by
  unfold M.lexer_visible leI
  congr 2
  · exact decide_eq_decide.2 (by omega)
  · exact decide_eq_decide.2 (by omega)
theorem e10 (c : UInt8) : eqI (c.toNat : Int) 10 = (c == 10) := by
  unfold eqI
  rw [Bool.eq_iff_iff]
  simp only [decide_eq_true_eq, beq_iff_eq]
  constructor
  · intro h; apply UInt8.toNat_inj.1; simp; omega
  · rintro rfl; rfl
theorem Quote_loop (s : List UInt8) (hs : s.length ≤ 20000) : ∀ (n i k : Nat) (b : List UInt8), i + n = s.length → n + 1 ≤ k → b.length + 2 * n ≤ 1000000 →
    if (s.drop i).all okc = true then ∃ b', M.lexer_Quote_l1 s k b i = some (.inr b') ∧ b'.length ≤ 1000000 else M.lexer_Quote_l1 s k b i = some (.inl ([], 3)) := by
  intro n
  induction n with
  | zero =>
    intro i k b hi hk hb
    obtain ⟨g, rfl⟩ : ∃ g, k = g + 1 := ⟨k - 1, by omega⟩
    rw [M.lexer_Quote_l1, ltI_f (by omega), List.drop_eq_nil_of_le (by omega)]
    exact ⟨b, rfl, by omega⟩
  | succ n ih =>
    intro i k b hi hk hb
    obtain ⟨g, rfl⟩ : ∃ g, k = g + 1 := ⟨k - 1, by omega⟩
    obtain ⟨c, hx, h2, _⟩ := drop_split (s := s) (i := i) (by omega)
    rw [M.lexer_Quote_l1, ltI_t (by omega), if_pos rfl, hx, h2, List.all_cons]
    simp only [obind, vis_M]
    by_cases c10 : (c == 10) = true
    · have ho : okc c = true := by unfold okc; rw [c10]; rfl
      rw [e10, if_pos c10, ws_M (by simp; omega)]
      simp only [obind, ho, Bool.true_and]
      exact ih (i + 1) g _ (by omega) (by omega) (by first | omega | (simp; omega))
    · rw [e10, if_neg c10]
      have c10 : (c == 10) = false := by simpa using c10
      cases hv : (decide (32 ≤ c.toNat) && decide (c.toNat ≤ 126))
      · have ho : okc c = false := by unfold okc; rw [hv, c10]; rfl
        rw [ho]; rfl
      · have ho : okc c = true := by unfold okc; rw [hv]; simp
        simp only [Bool.not_true, Bool.false_eq_true, if_false, ho, Bool.true_and]
        cases h34 : (eqI (c.toNat : Int) 34 || eqI (c.toNat : Int) 92)
        · simp only [Bool.false_eq_true, if_false]
          rw [wb_M (by omega)]
          simp only [obind]
          exact ih (i + 1) g (b ++ [c]) (by omega) (by omega) (by simp only [List.length_append, List.length_cons, List.length_nil]; omega)
        · simp only [if_true]
          rw [wb_M (by omega)]
          simp only [obind]
          rw [wb_M (by simp; omega)]
          simp only [obind]
          exact ih (i + 1) g (b ++ [92] ++ [c]) (by omega) (by omega) (by simp only [List.length_append, List.length_cons, List.length_nil]; omega)
def txt (s : List UInt8) : Bool := decide (s.length ≤ 16384) && s.all okc
theorem quoted_M (s : List UInt8) {fuel : Nat} (hf : 20000 ≤ fuel) : M.bytecode_quoted fuel s = some (txt s) := by
  rw [M.bytecode_quoted, M.lexer_Quote]
  by_cases h : s.length ≤ 16384
  · have hl := Quote_loop s (by omega) s.length 0 fuel [34] (by simp) (by omega) (by simp; omega)
    rw [List.drop_zero] at hl
    rw [ltI_f (by omega), if_neg (by simp), wb_M (by simp)]
    unfold txt
    simp only [obind, List.nil_append, decide_eq_true h, Bool.true_and]
    split at hl
    · rename_i ha
      obtain ⟨b', h1, h2⟩ := hl
      rw [h1, ha]
      simp only [obind, Sum.elim_inr]
      rw [wb_M (by omega)]
      rfl
    · rename_i ha
      rw [hl]
      simp only [obind, Sum.elim_inl, Bool.not_eq_true] at ha ⊢
      rw [ha]; rfl
  · rw [ltI_t (by omega), if_pos rfl]
    unfold txt
    rw [decide_eq_false h]; rfl
theorem Plain_M (s : List UInt8) {fuel : Nat} (hf : s.length < fuel) : M.ref02_Plain fuel s = some (s.all okc) := by
  rw [M.ref02_Plain, all_loop (s := s) (g := M.ref02_Plain_l1 s) (P := okc) (Q := fun _ c => ((if ltI (c.toNat : Int) 32 then some (!(eqI (c.toNat : Int) 10)) else if ltI 126 (c.toNat : Int) then some (!(eqI (c.toNat : Int) 10)) else some false : Option Bool).bind fun b => some (!b)))
    (fun k i => ?_) (fun i c _ => ?_) s.length fuel 0 (by omega) hf]
  · rw [List.drop_zero]
    cases s.all okc <;> rfl
  · rw [M.ref02_Plain_l1]
    cases hlt : ltI ((i : Nat) : Int) (s.length : Int) with
    | false => rfl
    | true =>
      have := ltT hlt
      obtain ⟨c, h1, _⟩ := drop_split (s := s) (i := i) (by omega)
      rw [if_pos rfl, if_pos rfl, h1, obind, obind]
      cases h : (if ltI (c.toNat : Int) 32 then some (!(eqI (c.toNat : Int) 10)) else if ltI 126 (c.toNat : Int) then some (!(eqI (c.toNat : Int) 10)) else some false : Option Bool) with
      | none => simp only [Option.bind_none]
      | some b => cases b <;> rfl
  · unfold okc
    rw [e10]
    by_cases h1 : c.toNat < 32
    · rw [ltI_t (by omega), if_pos rfl, obind, decide_eq_false (show ¬ 32 ≤ c.toNat by omega)]; simp
    · rw [ltI_f (by omega), if_neg (by simp), decide_eq_true (show 32 ≤ c.toNat by omega)]
      by_cases h2 : 126 < c.toNat
      · rw [ltI_t (by omega), if_pos rfl, obind, decide_eq_false (show ¬ c.toNat ≤ 126 by omega)]; simp
      · rw [ltI_f (by omega), if_neg (by simp), obind, decide_eq_true (show c.toNat ≤ 126 by omega)]; simp
theorem textual_M (s : List UInt8) {fuel : Nat} (hf : 20000 ≤ fuel) : M.ref46_textual fuel s = some (txt s) := by
  rw [M.ref46_textual]
  unfold txt
  by_cases h : s.length ≤ 16384
  · rw [leI_t (by omega), if_pos rfl, Plain_M s (by omega), decide_eq_true h]
    simp only [obind, Bool.true_and]
  · rw [leI_f (by omega), decide_eq_false h]; rfl
end Go.Proofs.Ythbjlmoaceaeeaa
set_option linter.unusedVariables false
set_option linter.unusedSimpArgs false
set_option maxRecDepth 100000
set_option maxHeartbeats 1000000
namespace Go.Proofs.Ythbjlmoaceaeeaa
open Go Go.Abs
def inn (n lo hi : Int) : Bool := (leI lo n) && (leI n hi)
theorem within_M (n lo hi : Int) : M.bytecode_within n lo hi = some (inn n lo hi) := rfl
theorem in_M (n lo hi : Int) : M.ref46_in n lo hi = some (inn n lo hi) := rfl
theorem inn_iff {n lo hi : Int} : inn n lo hi = true ↔ lo ≤ n ∧ n ≤ hi := by
  unfold inn leI; simp
def eff (i : Api.Instr) : Int × Int × Int :=
  if i.Op = 1 ∨ i.Op = 2 ∨ i.Op = 3 ∨ i.Op = 5 ∨ i.Op = 6 then (0, 1, 0)
  else if i.Op = 4 ∨ i.Op = 9 ∨ i.Op = 13 then (1, 0, 0)
  else if i.Op = 7 then (if inn i.B 0 1000 then (i.B, 1, 0) else (0, 0, 2))
  else if i.Op = 10 then (if inn i.A 0 1000 then (i.A, 1, 0) else (0, 0, 2))
  else if i.Op = 8 then (2, 1, 0)
  else if i.Op = 11 ∨ i.Op = 12 then (1, 1, 0)
  else if i.Op = 14 ∨ i.Op = 16 then (0, 0, 0)
  else if i.Op = 15 then (if inn i.A 1 14 then ((if i.A = 6 ∨ i.A = 11 ∨ i.A = 13 ∨ i.A = 14 then 1 else 2), 1, 0) else (0, 0, 2))
  else (0, 0, 2)
theorem opCases (op : Int) : (op < 1 ∨ 16 < op) ∨ op = 1 ∨ op = 2 ∨ op = 3 ∨ op = 4 ∨ op = 5 ∨ op = 6 ∨ op = 7 ∨ op = 8 ∨ op = 9 ∨ op = 10 ∨ op = 11 ∨ op = 12 ∨ op = 13 ∨ op = 14 ∨ op = 15 ∨ op = 16 := by omega
theorem opOut {op : Int} (h : op < 1 ∨ 16 < op) (k : Int) (h1 : 1 ≤ k) (h2 : k ≤ 16) : eqI op k = false ∧ op ≠ k := ⟨eqI_f (by omega), by omega⟩
theorem effect_M (i : Api.Instr) : M.bytecode_Effect i = some (eff i) := by
  obtain ⟨op, a, b⟩ := i
  rcases opCases op with h | h | h | h | h | h | h | h | h | h | h | h | h | h | h | h | h
  · have hk := fun k h1 h2 => opOut h k h1 h2
    simp only [M.bytecode_Effect, eff]
    simp [(hk 1 (by omega) (by omega)), (hk 2 (by omega) (by omega)), (hk 3 (by omega) (by omega)), (hk 4 (by omega) (by omega)), (hk 5 (by omega) (by omega)), (hk 6 (by omega) (by omega)), (hk 7 (by omega) (by omega)), (hk 8 (by omega) (by omega)), (hk 9 (by omega) (by omega)), (hk 10 (by omega) (by omega)), (hk 11 (by omega) (by omega)), (hk 12 (by omega) (by omega)), (hk 13 (by omega) (by omega)), (hk 14 (by omega) (by omega)), (hk 15 (by omega) (by omega)), (hk 16 (by omega) (by omega))]
  all_goals subst h
  all_goals simp only [M.bytecode_Effect, eff, within_M, obind]
  all_goals try rfl
  · cases h : inn b 0 1000 <;> simp [eqI]
  · cases h : inn a 0 1000 <;> simp [eqI]
  · cases h : inn a 1 14
    · simp [eqI]
    · simp only [eqI, M.bytecode_taken]
      by_cases h1 : a = 6
      · simp [h1]
      by_cases h2 : a = 11
      · simp [h2]
      by_cases h3 : a = 13
      · simp [h3]
      by_cases h4 : a = 14
      · simp [h4]
      simp [h1, h2, h3, h4]
theorem reffect_M (i : Api.Instr) : M.ref46_Effect i = some (eff i) := by
  obtain ⟨op, a, b⟩ := i
  rcases opCases op with h | h | h | h | h | h | h | h | h | h | h | h | h | h | h | h | h
  · have hk := fun k h1 h2 => opOut h k h1 h2
    simp only [M.ref46_Effect, eff]
    simp [(hk 1 (by omega) (by omega)), (hk 2 (by omega) (by omega)), (hk 3 (by omega) (by omega)), (hk 4 (by omega) (by omega)), (hk 5 (by omega) (by omega)), (hk 6 (by omega) (by omega)), (hk 7 (by omega) (by omega)), (hk 8 (by omega) (by omega)), (hk 9 (by omega) (by omega)), (hk 10 (by omega) (by omega)), (hk 11 (by omega) (by omega)), (hk 12 (by omega) (by omega)), (hk 13 (by omega) (by omega)), (hk 14 (by omega) (by omega)), (hk 15 (by omega) (by omega)), (hk 16 (by omega) (by omega))]
  all_goals subst h
  all_goals simp only [M.ref46_Effect, eff, in_M, obind]
  all_goals try rfl
  · cases h : inn b 0 1000 <;> simp [eqI]
  · cases h : inn a 0 1000 <;> simp [eqI]
  · have key : M.ref46_Arity a = some (if inn a 1 14 then (if a = 6 ∨ a = 11 ∨ a = 13 ∨ a = 14 then 1 else 2) else 0) := by
      unfold M.ref46_Arity
      by_cases h1 : a = 6
      · subst h1; rfl
      by_cases h2 : a = 11
      · subst h2; rfl
      by_cases h3 : a = 13
      · subst h3; rfl
      by_cases h4 : a = 14
      · subst h4; rfl
      rw [eqI_f h1, eqI_f h2, eqI_f h3, eqI_f h4]
      simp only [Bool.false_eq_true, if_false]
      by_cases h5 : 1 ≤ a ∧ a ≤ 14
      · rw [ltI_f h5.1, ltI_f h5.2, inn_iff.2 h5]; simp [h1, h2, h3, h4]
      · have : inn a 1 14 = false := by cases hi : inn a 1 14 with | false => rfl | true => exact absurd (inn_iff.1 hi) h5
        rw [this]
        by_cases h6 : a < 1
        · rw [ltI_t h6]; rfl
        · rw [ltI_f (by omega), ltI_t (show (14 : Int) < a by omega)]; rfl
    rw [key]
    cases h : inn a 1 14
    · simp [eqI, obind]
    · simp only [if_true, obind]
      by_cases h1 : a = 6 ∨ a = 11 ∨ a = 13 ∨ a = 14
      · simp only [h1, if_true]; rfl
      · simp only [h1, if_false]; rfl
theorem eff_ok {i : Api.Instr} (h : (eff i).2.2 = 0) : 0 ≤ (eff i).1 ∧ (eff i).1 ≤ 1000 ∧ 0 ≤ (eff i).2.1 ∧ (eff i).2.1 ≤ 1 := by
  unfold eff at h ⊢
  repeat' (first | split at h | split)
  all_goals simp_all [inn_iff]
  all_goals omega
end Go.Proofs.Ythbjlmoaceaeeaa
set_option linter.unusedVariables false
set_option linter.unusedSimpArgs false
set_option maxRecDepth 100000
set_option maxHeartbeats 1000000
namespace Go.Proofs.Ythbjlmoaceaeeaa
open Go Go.Abs
def upL (a : Int) : Nat → List Int
  | 0 => []
  | n + 1 => a :: upL (a + 1) n
theorem upL_len (a : Int) : ∀ n, (upL a n).length = n := by
  intro n
  induction n generalizing a with
  | zero => rfl
  | succ n ih => simp [upL, ih]
theorem upL_snoc (a : Int) : ∀ n, upL a (n + 1) = upL a n ++ [a + n] := by
  intro n
  induction n generalizing a with
  | zero => simp [upL]
  | succ n ih => rw [upL, ih, upL]; simp; omega
theorem upL_get (a : Int) : ∀ n (x : Int), x ∈ upL a n ↔ a ≤ x ∧ x < a + n := by
  intro n
  induction n generalizing a with
  | zero => intro x; simp only [upL, List.not_mem_nil, false_iff]; omega
  | succ n ih => intro x; simp only [upL, List.mem_cons, ih]; omega
def goL (at1 : Nat) (x : Api.Instr) : Option (List Int) :=
  if x.Op = 14 then some [x.A]
  else if x.Op = 13 then (if inn x.B 1 1000 then some (upL (at1 + 1) x.B.toNat) else none)
  else some [(at1 : Int) + 1]
def inL (f : Api.Fun) (l : List Int) : Bool := l.all fun y => inn y 0 ((f.Code.length : Int) - 1)
def tgt (f : Api.Fun) (at1 : Nat) (x : Api.Instr) : List Int × Int :=
  if x.Op < 1 ∨ 16 < x.Op then ([], 2)
  else if x.Op = 9 ∨ x.Op = 16 then ([], 0)
  else match goL at1 x with
    | none => ([], 24)
    | some l => if inL f l then (l, 0) else ([], 24)
theorem any_not {α : Type} (l : List α) (P : α → Bool) : (l.any fun y => !P y) = !l.all P := by
  induction l with
  | nil => rfl
  | cons a l ih => rw [List.any_cons, List.all_cons, ih]; cases P a <;> rfl
theorem cfT {f : Api.Fun} (hn : f.Code.length ≤ 16384) (l : List Int) {fuel : Nat} (hf : l.length < fuel) : M.slices_ContainsFunc_int_Targets_1 fuel l f = some (!inL f l) := by
  rw [M.slices_ContainsFunc_int_Targets_1, M.slices_IndexFunc_int_Targets_1]
  have := cf_loop (s := l) (P := fun y => !inn y 0 ((f.Code.length : Int) - 1)) (Q := fun x => M.bytecode_Targets_1 x f) (g := M.slices_IndexFunc_int_Targets_1_l1 l f) (fun k i => by rw [M.slices_IndexFunc_int_Targets_1_l1])
    (fun x _ => by rw [M.bytecode_Targets_1, chk64 (by omega) (by omega)]; rfl) hf
  rw [this]
  unfold inL
  congr 1
  exact any_not l _
theorem swLoop (at1 : Nat) (x : Api.Instr) (ha : at1 ≤ 16384) (hb : x.B ≤ 1000) : ∀ (n k : Nat) (i : Int) (out : List Int), 0 ≤ i → i + n = x.B → n < k → out.length + n ≤ 2000 →
    M.bytecode_Targets_l1 (at1 : Int) x k out i = some (out ++ upL ((at1 : Int) + 1 + i) n)
  | 0, k, i, out, h0, hi, hk, ho => by
    obtain ⟨k, rfl⟩ : ∃ g, k = g + 1 := ⟨k - 1, by omega⟩
    rw [M.bytecode_Targets_l1, ltI_f (by omega)]; simp [upL]
  | n + 1, k, i, out, h0, hi, hk, ho => by
    obtain ⟨k, rfl⟩ : ∃ g, k = g + 1 := ⟨k - 1, by omega⟩
    rw [M.bytecode_Targets_l1, ltI_t (by omega), if_pos rfl, chk64 (by omega) (by omega), obind, chk64 (by omega) (by omega), obind, app_some (by decide) (by simp; omega), obind, chk64 (by omega) (by omega), obind,
      swLoop at1 x ha hb n k (i + 1) _ (by omega) (by omega) (by omega) (by simp; omega), upL]
    rw [List.append_assoc]
    simp only [List.cons_append, List.nil_append]
    rw [show (at1 : Int) + 1 + (i + 1) = (at1 : Int) + 1 + i + 1 by omega]
theorem rswLoop (at1 : Nat) (x : Api.Instr) (ha : at1 ≤ 16384) (hb : x.B ≤ 1000) : ∀ (n k : Nat) (i : Int) (out : List Int), 0 ≤ i → i + n = x.B + 1 → n < k → out.length + n ≤ 2000 →
    M.ref46_Targets_l4 (at1 : Int) x k out i = some (out ++ upL ((at1 : Int) + i) n)
  | 0, k, i, out, h0, hi, hk, ho => by
    obtain ⟨k, rfl⟩ : ∃ g, k = g + 1 := ⟨k - 1, by omega⟩
    rw [M.ref46_Targets_l4, leI_f (by omega)]; simp [upL]
  | n + 1, k, i, out, h0, hi, hk, ho => by
    obtain ⟨k, rfl⟩ : ∃ g, k = g + 1 := ⟨k - 1, by omega⟩
    rw [M.ref46_Targets_l4, leI_t (by omega), if_pos rfl, chk64 (by omega) (by omega), obind, app_some (by decide) (by simp; omega), obind, chk64 (by omega) (by omega), obind,
      rswLoop at1 x ha hb n k (i + 1) _ (by omega) (by omega) (by omega) (by simp; omega), upL]
    rw [List.append_assoc]
    simp only [List.cons_append, List.nil_append]
    rw [show (at1 : Int) + (i + 1) = (at1 : Int) + i + 1 by omega]
theorem inLoop {f : Api.Fun} (hn : f.Code.length ≤ 16384) (l : List Int) {g : Nat → Nat → Option (((List Int) × Int) ⊕ Unit)}
    (hg : ∀ k i, g (k + 1) i = if ltI ((i : Nat) : Int) (l.length : Int) then (l[i]?).bind fun x => (chk .i64 ((f.Code.length : Int) - 1)).bind fun n => (M.ref46_in x 0 n).bind fun v => if !v then some (.inl (([] : List Int), 24)) else g k (i + 1) else some (.inr ())) :
    ∀ n k i, i + n = l.length → n < k → g k i = some (if inL f (l.drop i) then .inr () else .inl ([], 24))
  | 0, k, i, hi, hk => by
    obtain ⟨k, rfl⟩ : ∃ g, k = g + 1 := ⟨k - 1, by omega⟩
    rw [hg, ltI_f (by omega), List.drop_eq_nil_of_le (by omega)]; rfl
  | n + 1, k, i, hi, hk => by
    obtain ⟨k, rfl⟩ : ∃ g, k = g + 1 := ⟨k - 1, by omega⟩
    obtain ⟨x, h1, h2, h3⟩ := drop_split (s := l) (i := i) (by omega)
    have ih := inLoop hn l hg n k (i + 1) (by omega) (by omega)
    rw [hg, ltI_t (by omega), if_pos rfl, h1, obind, chk64 (by omega) (by omega), obind, in_M, obind, h2]
    unfold inL at ih ⊢
    rw [List.all_cons]
    cases hp : inn x 0 ((f.Code.length : Int) - 1) with
    | true => rw [ih]; simp
    | false => rfl
theorem known_M (op : Int) : M.bytecode_known op = some (inn op 1 16) := rfl
theorem word_M (op : Int) : ∃ w, M.ref46_Word op = some w ∧ eqS w [] = !inn op 1 16 := by
  rcases opCases op with h | h | h | h | h | h | h | h | h | h | h | h | h | h | h | h | h
  · have : inn op 1 16 = false := by cases hi : inn op 1 16 with | false => rfl | true => have := inn_iff.1 hi; omega
    rw [this, M.ref46_Word, obind]
    by_cases h1 : op < 1
    · rw [ltI_t h1]; exact ⟨_, rfl, rfl⟩
    · rw [ltI_f (by omega), leI_t (by simp; omega)]; exact ⟨_, rfl, rfl⟩
  all_goals subst h; exact ⟨_, rfl, rfl⟩
theorem targets_M {f : Api.Fun} (hn : f.Code.length ≤ 16384) {at1 : Nat} {x : Api.Instr} (hx : f.Code[at1]? = some x) {fuel : Nat} (hf : 20000 ≤ fuel) : M.bytecode_Targets fuel f (at1 : Int) = some (tgt f at1 x) := by
  have hlt := (List.getElem?_eq_some_iff.1 hx).1
  have hi : idx f.Code (at1 : Int) = some x := idx_some (by omega) (by simpa using hx)
  rw [M.bytecode_Targets, ltI_f (show (0 : Int) ≤ (at1 : Int) by omega), leI_f (by omega)]
  simp only [Bool.false_eq_true, if_false, hi, obind, known_M]
  unfold tgt
  cases hk : inn x.Op 1 16 with
  | false =>
    have : x.Op < 1 ∨ 16 < x.Op := by
      apply Decidable.byContradiction; intro h
      have : inn x.Op 1 16 = true := inn_iff.2 ⟨by omega, by omega⟩
      rw [this] at hk; cases hk
    rw [if_pos this]; rfl
  | true =>
    have hk := inn_iff.1 hk
    rw [if_neg (show ¬ (x.Op < 1 ∨ 16 < x.Op) by omega)]
    simp only [Bool.not_true, Bool.false_eq_true, if_false]
    by_cases h9 : x.Op = 9
    · rw [eqI_t h9, if_pos rfl, if_pos (.inl h9)]
    by_cases h16 : x.Op = 16
    · rw [eqI_f h9, eqI_t h16]; simp only [Bool.false_eq_true, if_false, if_true]; rw [if_pos (Or.inr h16)]
    rw [eqI_f h9, eqI_f h16, if_neg (show ¬ (x.Op = 9 ∨ x.Op = 16) by omega)]
    simp only [Bool.false_eq_true, if_false]
    unfold goL
    by_cases h14 : x.Op = 14
    · rw [eqI_t h14, if_pos rfl, cfT hn _ (by simp; omega), obind, if_pos h14]
      cases h : inL f [x.A] <;> simp [h]
    rw [eqI_f h14, if_neg h14]
    simp only [Bool.false_eq_true, if_false]
    by_cases h13 : x.Op = 13
    · rw [eqI_t h13, if_pos rfl, within_M, obind, if_pos h13]
      cases hb : inn x.B 1 1000 with
      | false => rfl
      | true =>
        have hb' := inn_iff.1 hb
        simp only [Bool.not_true, Bool.false_eq_true, if_false, if_true]
        rw [swLoop at1 x (by omega) hb'.2 x.B.toNat fuel 0 [] (by omega) (by omega) (by omega) (by simp; omega), obind, List.nil_append, Int.add_zero, cfT hn _ (by rw [upL_len]; omega), obind]
        cases h : inL f (upL ((at1 : Int) + 1) x.B.toNat) <;> simp [h]
    rw [eqI_f h13, if_neg h13]
    simp only [Bool.false_eq_true, if_false]
    rw [chk64 (by omega) (by omega), obind, cfT hn _ (by simp; omega), obind]
    cases h : inL f [(at1 : Int) + 1] <;> simp [h]
theorem rtargets_M {f : Api.Fun} (hn : f.Code.length ≤ 16384) {at1 : Nat} {x : Api.Instr} (hx : f.Code[at1]? = some x) {fuel : Nat} (hf : 20000 ≤ fuel) : M.ref46_Targets fuel f (at1 : Int) = some (tgt f at1 x) := by
  have hlt := (List.getElem?_eq_some_iff.1 hx).1
  have hi : idx f.Code (at1 : Int) = some x := idx_some (by omega) (by simpa using hx)
  obtain ⟨w, hw1, hw2⟩ := word_M x.Op
  have hin : inn (at1 : Int) 0 ((f.Code.length : Int) - 1) = true := inn_iff.2 ⟨by omega, by omega⟩
  rw [M.ref46_Targets, chk64 (by omega) (by omega), obind, in_M, obind, hin]
  simp only [Bool.not_true, Bool.false_eq_true, if_false, hi, obind, hw1, hw2]
  unfold tgt
  cases hk : inn x.Op 1 16 with
  | false =>
    have : x.Op < 1 ∨ 16 < x.Op := by
      apply Decidable.byContradiction; intro h
      have : inn x.Op 1 16 = true := inn_iff.2 ⟨by omega, by omega⟩
      rw [this] at hk; cases hk
    rw [if_pos this]; rfl
  | true =>
    have hk := inn_iff.1 hk
    obtain ⟨g, rfl⟩ : ∃ g, fuel = g + 1 := ⟨fuel - 1, by omega⟩
    rw [if_neg (show ¬ (x.Op < 1 ∨ 16 < x.Op) by omega)]
    simp only [Bool.not_true, Bool.false_eq_true, if_false]
    by_cases h9 : x.Op = 9
    · rw [eqI_t h9, if_pos rfl, if_pos (.inl h9)]; rfl
    by_cases h16 : x.Op = 16
    · rw [eqI_f h9, eqI_t h16]; simp only [Bool.false_eq_true, if_false, if_true]; rw [if_pos (Or.inr h16)]; rfl
    rw [eqI_f h9, eqI_f h16, if_neg (show ¬ (x.Op = 9 ∨ x.Op = 16) by omega)]
    simp only [Bool.false_eq_true, if_false]
    unfold goL
    by_cases h14 : x.Op = 14
    · rw [eqI_t h14, if_pos rfl, app_some (by decide) (by simp), obind, inLoop hn _ (g := M.ref46_Targets_l3 f ([] ++ [x.A])) (fun k i => by rw [M.ref46_Targets_l3]) _ _ 0 (Nat.zero_add _) (by simp; omega), obind, if_pos h14, List.drop_zero, List.nil_append]
      cases h : inL f [x.A] <;> simp [h]
    rw [eqI_f h14, if_neg h14]
    simp only [Bool.false_eq_true, if_false]
    by_cases h13 : x.Op = 13
    · rw [eqI_t h13, if_pos rfl, in_M, obind, if_pos h13]
      cases hb : inn x.B 1 1000 with
      | false => rfl
      | true =>
        have hb' := inn_iff.1 hb
        simp only [Bool.not_true, Bool.false_eq_true, if_false, if_true]
        rw [rswLoop at1 x (by omega) hb'.2 x.B.toNat (g + 1) 1 [] (by omega) (by omega) (by omega) (by simp; omega), obind, List.nil_append,
          inLoop hn _ (g := M.ref46_Targets_l5 f (upL ((at1 : Int) + 1) x.B.toNat)) (fun k i => by rw [M.ref46_Targets_l5]) _ _ 0 (Nat.zero_add _) (by rw [upL_len]; omega), obind, List.drop_zero]
        cases h : inL f (upL ((at1 : Int) + 1) x.B.toNat) <;> simp [h]
    rw [eqI_f h13, if_neg h13]
    simp only [Bool.false_eq_true, if_false]
    rw [chk64 (by omega) (by omega), obind, app_some (by decide) (by simp), obind, inLoop hn _ (g := M.ref46_Targets_l6 f ([] ++ [(at1 : Int) + 1])) (fun k i => by rw [M.ref46_Targets_l6]) _ _ 0 (Nat.zero_add _) (by simp; omega), obind, List.drop_zero, List.nil_append]
    cases h : inL f [(at1 : Int) + 1] <;> simp [h]
theorem tgt_in {f : Api.Fun} {at1 : Nat} {x : Api.Instr} (h : (tgt f at1 x).2 = 0) : ∀ y ∈ (tgt f at1 x).1, 0 ≤ y ∧ y < f.Code.length := by
  unfold tgt at h ⊢
  split
  · intro y hy; cases hy
  · split
    · intro y hy; cases hy
    · rename_i h1 h2
      rw [if_neg h1, if_neg h2] at h
      split
      · intro y hy; cases hy
      · rename_i l hl
        rw [hl] at h
        dsimp only at h ⊢
        split
        · rename_i h3
          intro y hy
          have := inn_iff.1 (List.all_eq_true.1 h3 y hy)
          omega
        · intro y hy; cases hy
end Go.Proofs.Ythbjlmoaceaeeaa
set_option linter.unusedVariables false
set_option linter.unusedSimpArgs false
set_option maxRecDepth 100000
set_option maxHeartbeats 1000000
namespace Go.Proofs.Ythbjlmoaceaeeaa
open Go Go.Abs
def jumps (f : Api.Fun) (at1 : Nat) (n : Nat) : Bool := ((f.Code.drop (at1 + 1)).take n).all fun y => eqI y.Op 14
def rightS (p : Api.Program) (f : Api.Fun) (at1 : Nat) (x : Api.Instr) : Bool :=
  if x.Op < 1 ∨ 16 < x.Op then false
  else if ¬ (x.Op = 7 ∨ x.Op = 13) ∧ x.B ≠ 0 then false
  else if (x.Op = 6 ∨ x.Op = 8 ∨ x.Op = 9) ∧ x.A ≠ 0 then false
  else if x.Op = 1 then inn x.A (-4503599627370496) 4503599627370496
  else if x.Op = 2 then inn x.A 0 ((p.Texts.length : Int) - 1)
  else if x.Op = 3 ∨ x.Op = 4 then inn x.A 0 (f.Locals - 1)
  else if x.Op = 5 then inn x.A 0 (f.Captures - 1)
  else if x.Op = 7 then (if inn x.A 0 ((p.Funs.length : Int) - 1) then (match p.Funs[x.A.toNat]? with | some g => eqI x.B g.Captures | none => false) else false)
  else if x.Op = 10 then inn x.A 0 1000
  else if x.Op = 11 ∨ x.Op = 12 then inn x.A 0 999
  else if x.Op = 13 then (if inn x.A 0 (f.Locals - 1) then (if inn x.B 1 1000 then (if leI (f.Code.length : Int) (at1 + x.B) then false else jumps f at1 x.B.toNat) else false) else false)
  else if x.Op = 14 then inn x.A 0 ((f.Code.length : Int) - 1)
  else if x.Op = 15 then inn x.A 1 14
  else if x.Op = 16 then inn x.A 1 1000000
  else true
structure HeadOk (f : Api.Fun) : Prop where
  c0 : 0 ≤ f.Captures
  c1 : f.Captures ≤ 1000
  l0 : 1 ≤ f.Locals
  l1 : f.Locals ≤ 4096
  d0 : 0 ≤ f.Depth
  d1 : f.Depth ≤ 4096
  n0 : 1 ≤ f.Code.length
  n1 : f.Code.length ≤ 16384
def headS (f : Api.Fun) : Bool := inn f.Captures 0 1000 && (inn f.Locals 1 4096 && (inn f.Depth 0 4096 && inn (f.Code.length : Int) 1 16384))
theorem headS_iff {f : Api.Fun} : headS f = true ↔ HeadOk f := by
  unfold headS
  simp only [Bool.and_eq_true, inn_iff]
  constructor
  · rintro ⟨⟨h1, h2⟩, ⟨h3, h4⟩, ⟨h5, h6⟩, h7, h8⟩; exact ⟨h1, h2, h3, h4, h5, h6, by omega, by omega⟩
  · intro h; exact ⟨⟨h.c0, h.c1⟩, ⟨h.l0, h.l1⟩, ⟨h.d0, h.d1⟩, by have := h.n0; omega, by have := h.n1; omega⟩
theorem cfR (l : List Api.Instr) {fuel : Nat} (hf : l.length < fuel) : M.slices_ContainsFunc_api_Instr_right_1 fuel l = some (!l.all fun y => eqI y.Op 14) := by
  rw [M.slices_ContainsFunc_api_Instr_right_1, M.slices_IndexFunc_api_Instr_right_1]
  have := cf_loop (s := l) (P := fun y => !eqI y.Op 14) (Q := fun x => M.bytecode_right_1 x) (g := M.slices_IndexFunc_api_Instr_right_1_l1 l) (fun k i => by rw [M.slices_IndexFunc_api_Instr_right_1_l1])
    (fun x _ => rfl) hf
  rw [this, any_not]
theorem rrLoop {f : Api.Fun} {at1 : Nat} {x : Api.Instr} (hn : f.Code.length ≤ 16384) (hB : (at1 : Int) + x.B < f.Code.length) : ∀ (n k : Nat) (i : Nat), (i : Int) + n = x.B + 1 → n < k → 1 ≤ i →
    M.ref46_right_l1 f (at1 : Int) x k (i : Int) = some (if ((f.Code.drop (at1 + i)).take n).all fun y => eqI y.Op 14 then .inr () else .inl false)
  | 0, k, i, hi, hk, h1 => by
    obtain ⟨k, rfl⟩ : ∃ g, k = g + 1 := ⟨k - 1, by omega⟩
    rw [M.ref46_right_l1, leI_f (by omega)]; simp
  | n + 1, k, i, hi, hk, h1 => by
    obtain ⟨k, rfl⟩ : ∃ g, k = g + 1 := ⟨k - 1, by omega⟩
    obtain ⟨y, h2, h3, _⟩ := drop_split (s := f.Code) (i := at1 + i) (by omega)
    have ih := rrLoop hn hB n k (i + 1) (by omega) (by omega) (by omega)
    rw [M.ref46_right_l1, leI_t (by omega), if_pos rfl, chk64 (by omega) (by omega), obind, idx_some (x := y) (by omega) (by rw [show ((at1 : Int) + (i : Int)).toNat = at1 + i by omega]; exact h2), obind, h3, List.take_succ_cons, List.all_cons]
    cases hp : eqI y.Op 14 with
    | false => rfl
    | true =>
      rw [if_neg (by simp), chk64 (by omega) (by omega), obind]
      rw [show at1 + (i + 1) = at1 + i + 1 by omega] at ih
      simpa using ih
theorem right_M {p : Api.Program} (hp : p.Funs.length ≤ 4096) (ht : p.Texts.length ≤ 1000) {f : Api.Fun} (hf : HeadOk f) {at1 : Nat} {x : Api.Instr} (hx : f.Code[at1]? = some x) {fuel : Nat} (hfu : 20000 ≤ fuel) :
    M.bytecode_right fuel p f (at1 : Int) = some (rightS p f at1 x) := by
  have hlt := (List.getElem?_eq_some_iff.1 hx).1
  have hi : idx f.Code (at1 : Int) = some x := idx_some (by omega) (by simpa using hx)
  have h1 := hf.c0; have h2 := hf.c1; have h3 := hf.l0; have h4 := hf.l1; have h5 := hf.n1
  have cl : chk .i64 (f.Locals - 1) = some (f.Locals - 1) := chk64 (by omega) (by omega)
  have cc : chk .i64 (f.Captures - 1) = some (f.Captures - 1) := chk64 (by omega) (by omega)
  have cn : chk .i64 ((f.Code.length : Int) - 1) = some ((f.Code.length : Int) - 1) := chk64 (by omega) (by omega)
  have ct : chk .i64 ((p.Texts.length : Int) - 1) = some ((p.Texts.length : Int) - 1) := chk64 (by omega) (by omega)
  have cf : chk .i64 ((p.Funs.length : Int) - 1) = some ((p.Funs.length : Int) - 1) := chk64 (by omega) (by omega)
  rw [M.bytecode_right]
  simp only [hi, obind, known_M]
  clear hi
  obtain ⟨op, a, b⟩ := x
  rcases opCases op with h | h | h | h | h | h | h | h | h | h | h | h | h | h | h | h | h
  · have : inn op 1 16 = false := by cases hi : inn op 1 16 with | false => rfl | true => have := inn_iff.1 hi; omega
    rw [rightS, if_pos h, this]; rfl
  all_goals subst h
  case inr.inr.inr.inr.inr.inr.inr.inl =>
    rw [rightS]
    simp only [cf, within_M, obind]
    cases hk : inn a 0 ((p.Funs.length : Int) - 1) with
    | false => simp [inn, leI, eqI, ltI, idx, M.bytecode_words]
    | true =>
      have hk' := inn_iff.1 hk
      obtain ⟨g, hg, _⟩ := drop_split (s := p.Funs) (i := a.toNat) (by omega)
      simp [inn, leI, eqI, ltI, idx, M.bytecode_words, hg, hk'.1]
  case inr.inr.inr.inr.inr.inr.inr.inr.inr.inr.inr.inr.inr.inl =>
    rw [rightS]
    simp only [cl, within_M, obind]
    cases hk : inn a 0 (f.Locals - 1) with
    | false => simp [inn, leI, eqI, ltI, idx, M.bytecode_words]
    | true =>
      cases hb : inn b 1 1000 with
      | false => simp [inn, leI, eqI, ltI, idx, M.bytecode_words]
      | true =>
        have hb' := inn_iff.1 hb
        have cs : chk .i64 ((at1 : Int) + b) = some ((at1 : Int) + b) := chk64 (by omega) (by omega)
        by_cases hc : (f.Code.length : Int) ≤ (at1 : Int) + b
        · simp [inn, leI, eqI, ltI, idx, M.bytecode_words, cs, hc]
        · have c1 : chk .i64 ((at1 : Int) + 1) = some ((at1 : Int) + 1) := chk64 (by omega) (by omega)
          have c2 : chk .i64 ((at1 : Int) + 1 + b) = some ((at1 : Int) + 1 + b) := chk64 (by omega) (by omega)
          have e1 : subC f.Code ((at1 : Int) + 1) ((at1 : Int) + 1 + b) = some ((f.Code.drop (at1 + 1)).take b.toNat) := by
            rw [subC, if_pos ⟨by omega, by omega, by omega⟩, sub, show ((at1 : Int) + 1).toNat = at1 + 1 by omega, show ((at1 : Int) + 1 + b).toNat - (at1 + 1) = b.toNat by omega]
          have e2 := cfR ((f.Code.drop (at1 + 1)).take b.toNat) (fuel := fuel) (by rw [List.length_take]; omega)
          unfold eqI at e2
          simp [inn, leI, eqI, ltI, idx, M.bytecode_words, jumps, cs, hc, c1, c2, e1, e2]
  all_goals
    rw [rightS]
    simp only [cl, cc, cn, ct, cf, within_M, obind]
    by_cases ha : a = 0 <;> by_cases hb : b = 0 <;> simp [ha, hb, inn, leI, eqI, ltI, idx, M.bytecode_words]
theorem arity_pos (a : Int) : ((M.ref46_Arity a).bind fun v => some (decide (0 < v))) = some (decide (1 ≤ a) && decide (a ≤ 14)) := by
  unfold M.ref46_Arity
  by_cases h1 : a = 6
  · subst h1; rfl
  by_cases h2 : a = 11
  · subst h2; rfl
  by_cases h3 : a = 13
  · subst h3; rfl
  by_cases h4 : a = 14
  · subst h4; rfl
  rw [eqI_f h1, eqI_f h2, eqI_f h3, eqI_f h4]
  simp only [Bool.false_eq_true, if_false]
  by_cases h5 : a < 1
  · rw [ltI_t h5, decide_eq_false (show ¬ 1 ≤ a by omega)]; rfl
  · by_cases h6 : 14 < a
    · rw [ltI_f (by omega), ltI_t h6, decide_eq_false (show ¬ a ≤ 14 by omega), Bool.and_false]; rfl
    · rw [ltI_f (by omega), ltI_f (by omega), decide_eq_true (show 1 ≤ a by omega), decide_eq_true (show a ≤ 14 by omega)]; rfl
theorem rright_M {p : Api.Program} (hp : p.Funs.length ≤ 4096) (ht : p.Texts.length ≤ 1000) {f : Api.Fun} (hf : HeadOk f) {at1 : Nat} {x : Api.Instr} (hx : f.Code[at1]? = some x) {fuel : Nat} (hfu : 20000 ≤ fuel) :
    M.ref46_right fuel p f (at1 : Int) = some (rightS p f at1 x) := by
  have hlt := (List.getElem?_eq_some_iff.1 hx).1
  have hi : idx f.Code (at1 : Int) = some x := idx_some (by omega) (by simpa using hx)
  have h1 := hf.c0; have h2 := hf.c1; have h3 := hf.l0; have h4 := hf.l1; have h5 := hf.n1
  have cl : chk .i64 (f.Locals - 1) = some (f.Locals - 1) := chk64 (by omega) (by omega)
  have cc : chk .i64 (f.Captures - 1) = some (f.Captures - 1) := chk64 (by omega) (by omega)
  have cn : chk .i64 ((f.Code.length : Int) - 1) = some ((f.Code.length : Int) - 1) := chk64 (by omega) (by omega)
  have ct : chk .i64 ((p.Texts.length : Int) - 1) = some ((p.Texts.length : Int) - 1) := chk64 (by omega) (by omega)
  have cf : chk .i64 ((p.Funs.length : Int) - 1) = some ((p.Funs.length : Int) - 1) := chk64 (by omega) (by omega)
  obtain ⟨w, hw1, hw2⟩ := word_M x.Op
  rw [M.ref46_right]
  simp only [hi, obind, hw1, hw2]
  clear hi hw1 hw2
  obtain ⟨op, a, b⟩ := x
  rcases opCases op with h | h | h | h | h | h | h | h | h | h | h | h | h | h | h | h | h
  · have : inn op 1 16 = false := by cases hi : inn op 1 16 with | false => rfl | true => have := inn_iff.1 hi; omega
    rw [rightS, if_pos h, this]; rfl
  all_goals subst h
  case inr.inr.inr.inr.inr.inr.inr.inl =>
    rw [rightS]
    simp only [cf, in_M, obind]
    cases hk : inn a 0 ((p.Funs.length : Int) - 1) with
    | false => simp [inn, leI, eqI, ltI, idx, M.ref46_Operands]
    | true =>
      have hk' := inn_iff.1 hk
      obtain ⟨g, hg, _⟩ := drop_split (s := p.Funs) (i := a.toNat) (by omega)
      simp [inn, leI, eqI, ltI, idx, M.ref46_Operands, hg, hk'.1]
  case inr.inr.inr.inr.inr.inr.inr.inr.inr.inr.inr.inr.inr.inl =>
    rw [rightS]
    simp only [cl, in_M, obind]
    cases hk : inn a 0 (f.Locals - 1) with
    | false => simp [inn, leI, eqI, ltI, idx, M.ref46_Operands]
    | true =>
      cases hb : inn b 1 1000 with
      | false => simp [inn, leI, eqI, ltI, idx, M.ref46_Operands]
      | true =>
        have hb' := inn_iff.1 hb
        have cs : chk .i64 ((at1 : Int) + b) = some ((at1 : Int) + b) := chk64 (by omega) (by omega)
        by_cases hc : (f.Code.length : Int) ≤ (at1 : Int) + b
        · simp [inn, leI, eqI, ltI, idx, M.ref46_Operands, cs, hc]
        · have e2 := rrLoop (f := f) (at1 := at1) (x := ⟨13, a, b⟩) h5 (by show (at1 : Int) + b < f.Code.length; omega) b.toNat fuel 1 (by show (1 : Int) + b.toNat = b + 1; omega) (by omega) (by omega)
          rw [show ((1 : Nat) : Int) = 1 from rfl] at e2
          unfold eqI at e2
          cases hj : ((f.Code.drop (at1 + 1)).take b.toNat).all fun y => decide (y.Op = 14) with
          | true => rw [hj, if_pos rfl] at e2; simp [inn, leI, eqI, ltI, idx, M.ref46_Operands, jumps, cs, hc, e2, hj]
          | false => rw [hj, if_neg (by simp)] at e2; simp [inn, leI, eqI, ltI, idx, M.ref46_Operands, jumps, cs, hc, e2, hj]
  all_goals
    rw [rightS]
    simp only [cl, cc, cn, ct, cf, in_M, obind]
    by_cases ha : a = 0 <;> by_cases hb : b = 0 <;> simp [ha, hb, inn, leI, eqI, ltI, idx, M.ref46_Operands, arity_pos]
def rightsS (p : Api.Program) (f : Api.Fun) : Bool := (f.Code.zipIdx 0).all fun q => rightS p f q.2 q.1
def validS (p : Api.Program) : Bool :=
  inn (p.Funs.length : Int) 1 4096 && (decide (p.Texts.length ≤ 1000) && (p.Texts.all txt && (p.Funs.all headS && (p.Funs.all (rightsS p) && (inn p.Main 0 ((p.Funs.length : Int) - 1) &&
    (match p.Funs[p.Main.toNat]? with | some g => eqI g.Captures 0 | none => false))))))
theorem sumF {R A : Type} {b : Bool} {r : R} {f : R → Option A} {g : Unit → Option A} : ((some (if b = true then .inr () else .inl r) : Option (R ⊕ Unit)).bind fun o => Sum.elim f g o) = if b = true then g () else f r := by cases b <;> rfl
theorem Valid_M (p : Api.Program) {fuel : Nat} (hf : 20000 ≤ fuel) : M.bytecode_Valid fuel p = some (validS p) := by
  rw [M.bytecode_Valid]
  unfold validS
  simp only [within_M, obind]
  cases h1 : inn (p.Funs.length : Int) 1 4096 with
  | false => rfl
  | true =>
  have h1' := inn_iff.1 h1
  simp only [Bool.not_true, Bool.false_eq_true, if_false, Bool.true_and]
  by_cases h2 : p.Texts.length ≤ 1000
  case neg => rw [ltI_t (by omega), decide_eq_false h2]; rfl
  rw [ltI_f (by omega), decide_eq_true h2]
  simp only [Bool.false_eq_true, if_false, Bool.true_and]
  have ht : M.slices_ContainsFunc_string_Valid_1 fuel p.Texts = some (!p.Texts.all txt) := by
    rw [M.slices_ContainsFunc_string_Valid_1, M.slices_IndexFunc_string_Valid_1]
    have := cf_loop (s := p.Texts) (P := fun y => !txt y) (Q := fun x => M.bytecode_Valid_1 fuel x) (g := M.slices_IndexFunc_string_Valid_1_l1 fuel p.Texts) (fun k i => by rw [M.slices_IndexFunc_string_Valid_1_l1])
      (fun x _ => by rw [M.bytecode_Valid_1, quoted_M x hf]; rfl) (k := fuel) (by omega)
    rw [this, any_not]
  rw [ht]
  simp only [obind]
  cases h3 : p.Texts.all txt with
  | false => rfl
  | true =>
  simp only [Bool.not_true, Bool.false_eq_true, if_false, Bool.true_and]
  rw [all_loop (s := p.Funs) (P := headS) (g := M.bytecode_Valid_l1 p) (Q := fun _ x => (((M.bytecode_within x.Captures 0 1000).bind fun v28 => if !v28 then some true else (M.bytecode_within x.Locals 1 4096).bind fun v33 => if !v33 then some true else
        (M.bytecode_within x.Depth 0 4096).bind fun v38 => if !v38 then some true else (M.bytecode_within (x.Code.length : Int) 1 16384).bind fun v43 => some (!v43) : Option Bool).bind fun b => some (!b))) ?_ ?_ p.Funs.length fuel 0 (by omega) (by omega)]
  rotate_left
  · intro k i
    rw [M.bytecode_Valid_l1]
    split
    · cases p.Funs[i]? with
      | none => rfl
      | some x =>
        simp only [obind]
        cases hq : (((M.bytecode_within x.Captures 0 1000).bind fun v28 => if !v28 then some true else (M.bytecode_within x.Locals 1 4096).bind fun v33 => if !v33 then some true else
          (M.bytecode_within x.Depth 0 4096).bind fun v38 => if !v38 then some true else (M.bytecode_within (x.Code.length : Int) 1 16384).bind fun v43 => some (!v43) : Option Bool)) with
        | none => rfl
        | some b => cases b <;> rfl
    · rfl
  · intro i x _
    unfold headS
    simp only [within_M, obind]
    cases inn x.Captures 0 1000 <;> cases inn x.Locals 1 4096 <;> cases inn x.Depth 0 4096 <;> cases inn (x.Code.length : Int) 1 16384 <;> rfl
  rw [sumF, List.drop_zero]
  cases h4 : p.Funs.all headS with
  | false => rfl
  | true =>
  simp only [if_true, Bool.true_and]
  have h4' := fun x hx => headS_iff.1 (List.all_eq_true.1 h4 x hx)
  rw [all_loop (s := p.Funs) (P := rightsS p) (g := M.bytecode_Valid_l2 fuel p) (Q := fun _ x => (M.bytecode_Valid_l3 fuel p x fuel 0).bind fun o => Sum.elim (fun r => some r) (fun _ => some true) o) ?_ ?_ p.Funs.length fuel 0 (by omega) (by omega)]
  rotate_left
  · intro k i
    rw [M.bytecode_Valid_l2]
    split
    · cases hpi : p.Funs[i]? with
      | none => rfl
      | some x =>
        simp only [obind]
        have hx := h4' x (List.mem_of_getElem? hpi)
        have h5 := hx.n1
        rw [alli_loop (s := x.Code) (P := fun i y => rightS p x i y) (g := M.bytecode_Valid_l3 fuel p x) (Q := fun i _ => M.bytecode_right fuel p x ((i : Nat) : Int)) ?_ (fun i y hy => right_M (by omega) h2 hx hy hf) x.Code.length fuel 0 (by omega) (by omega)]
        · split <;> rfl
        · intro k i
          rw [M.bytecode_Valid_l3]
          split
          · rename_i hlt
            have := ltT hlt
            obtain ⟨y, hy, _⟩ := drop_split (s := x.Code) (i := i) (by omega)
            rw [hy]; rfl
          · rfl
    · rfl
  · intro i x hpi
    have hx := h4' x (List.mem_of_getElem? hpi)
    have h5 := hx.n1
    rw [alli_loop (s := x.Code) (P := fun i y => rightS p x i y) (g := M.bytecode_Valid_l3 fuel p x) (Q := fun i _ => M.bytecode_right fuel p x ((i : Nat) : Int)) ?_ (fun i y hy => right_M (by omega) h2 hx hy hf) x.Code.length fuel 0 (by omega) (by omega)]
    · unfold rightsS
      rw [List.drop_zero]
      split
      · rename_i h; rw [h]; rfl
      · rename_i h; simp only [Bool.not_eq_true] at h; rw [h]; rfl
    · intro k i
      rw [M.bytecode_Valid_l3]
      split
      · rename_i hlt
        have := ltT hlt
        obtain ⟨y, hy, _⟩ := drop_split (s := x.Code) (i := i) (by omega)
        rw [hy]; rfl
      · rfl
  rw [sumF, List.drop_zero]
  cases h5 : p.Funs.all (rightsS p) with
  | false => rfl
  | true =>
  simp only [if_true, Bool.true_and]
  rw [chk64 (by omega) (by omega)]
  simp only [obind]
  cases h6 : inn p.Main 0 ((p.Funs.length : Int) - 1) with
  | false => rfl
  | true =>
    have h6' := inn_iff.1 h6
    obtain ⟨g, hg, _⟩ := drop_split (s := p.Funs) (i := p.Main.toNat) (by omega)
    rw [if_pos rfl, idx_some h6'.1 hg, hg]; rfl
theorem all_and {α : Type} (l : List α) (P Q : α → Bool) : l.all (fun x => P x && Q x) = (l.all P && l.all Q) := by
  induction l with
  | nil => rfl
  | cons x l ih => simp only [List.all_cons, ih]; cases P x <;> cases Q x <;> cases l.all P <;> cases l.all Q <;> rfl
theorem RValid_M (p : Api.Program) {fuel : Nat} (hf : 20000 ≤ fuel) : M.ref46_Valid fuel p = some (validS p) := by
  rw [M.ref46_Valid]
  unfold validS
  simp only [in_M, obind]
  cases h1 : inn (p.Funs.length : Int) 1 4096 with
  | false => rfl
  | true =>
  have h1' := inn_iff.1 h1
  simp only [Bool.not_true, Bool.false_eq_true, if_false, Bool.true_and]
  by_cases h2 : p.Texts.length ≤ 1000
  case neg => rw [ltI_t (by omega), decide_eq_false h2]; rfl
  rw [ltI_f (by omega), decide_eq_true h2]
  simp only [Bool.false_eq_true, if_false, Bool.true_and]
  rw [chk64 (by omega) (by omega)]
  simp only [obind]
  cases h6 : inn p.Main 0 ((p.Funs.length : Int) - 1) with
  | false => simp [obind]
  | true =>
  have h6' := inn_iff.1 h6
  obtain ⟨g, hg, _⟩ := drop_split (s := p.Funs) (i := p.Main.toNat) (by omega)
  rw [idx_some h6'.1 hg, hg]
  simp only [Bool.not_true, Bool.false_eq_true, if_false, obind, Bool.true_and]
  cases h7 : eqI g.Captures 0 with
  | false => simp
  | true =>
  simp only [Bool.not_true, Bool.false_eq_true, if_false, Bool.and_true]
  rw [all_loop (s := p.Texts) (P := txt) (g := M.ref46_Valid_l1 fuel p) (Q := fun _ x => M.ref46_textual fuel x) (fun k i => by rw [M.ref46_Valid_l1]) (fun i x _ => textual_M x hf) p.Texts.length fuel 0 (by omega) (by omega), sumF, List.drop_zero]
  cases h3 : p.Texts.all txt with
  | false => rfl
  | true =>
  simp only [if_true, Bool.true_and]
  have loop3 : ∀ x, HeadOk x → M.ref46_Valid_l3 fuel p x fuel 0 = some (if rightsS p x then .inr () else .inl false) := fun x hx => by
    have h5 := hx.n1
    rw [alli_loop (s := x.Code) (P := fun i y => rightS p x i y) (g := M.ref46_Valid_l3 fuel p x) (Q := fun i _ => M.ref46_right fuel p x ((i : Nat) : Int)) ?_ (fun i y hy => rright_M (by omega) h2 hx hy hf) x.Code.length fuel 0 (by omega) (by omega)]
    · unfold rightsS; rw [List.drop_zero]
    · intro k i
      rw [M.ref46_Valid_l3]
      split
      · rename_i hlt
        have := ltT hlt
        obtain ⟨y, hy, _⟩ := drop_split (s := x.Code) (i := i) (by omega)
        rw [hy]; rfl
      · rfl
  have head : ∀ x : Api.Fun, ((M.ref46_in x.Captures 0 1000).bind fun v61 => if !v61 then some true else (M.ref46_in x.Locals 1 4096).bind fun v66 => if !v66 then some true else
        (M.ref46_in x.Depth 0 4096).bind fun v71 => if !v71 then some true else (M.ref46_in (x.Code.length : Int) 1 16384).bind fun v76 => some (!v76) : Option Bool) = some (!headS x) := fun x => by
    unfold headS
    simp only [in_M, obind]
    cases inn x.Captures 0 1000 <;> cases inn x.Locals 1 4096 <;> cases inn x.Depth 0 4096 <;> cases inn (x.Code.length : Int) 1 16384 <;> rfl
  rw [all_loop (s := p.Funs) (P := fun x => headS x && rightsS p x) (g := M.ref46_Valid_l2 fuel p) (Q := fun _ x => some (headS x && rightsS p x)) ?_ (fun i x _ => rfl) p.Funs.length fuel 0 (by omega) (by omega), sumF, List.drop_zero, all_and]
  · cases p.Funs.all headS <;> cases p.Funs.all (rightsS p) <;> rfl
  · intro k i
    rw [M.ref46_Valid_l2]
    split
    · cases hpi : p.Funs[i]? with
      | none => rfl
      | some x =>
        simp only [obind]
        rw [head x, obind]
        cases hh : headS x with
        | false => rfl
        | true =>
          simp only [Bool.not_true, Bool.false_eq_true, if_false, Bool.true_and]
          rw [loop3 x (headS_iff.1 hh)]
          cases rightsS p x <;> rfl
    · rfl
end Go.Proofs.Ythbjlmoaceaeeaa
set_option linter.unusedVariables false
set_option linter.unusedSimpArgs false
set_option maxRecDepth 100000
set_option maxHeartbeats 1000000
namespace Go.Proofs.Ythbjlmoaceaeeaa
open Go Go.Abs
abbrev St := List (Option (Int × List Bool))
def Sub (w v : List Bool) : Prop := w.length = v.length ∧ ∀ k : Nat, w[k]? = some true → v[k]? = some true
theorem Sub.refl (v : List Bool) : Sub v v := ⟨rfl, fun _ h => h⟩
theorem Sub.trans {u v w : List Bool} (h : Sub u v) (h' : Sub v w) : Sub u w := ⟨h.1.trans h'.1, fun k hk => h'.2 k (h.2 k hk)⟩
theorem Sub.antisymm {v w : List Bool} (h : Sub v w) (h' : Sub w v) : v = w := by
  apply List.ext_getElem h.1
  intro i h1 h2
  have a := h.2 i; have b := h'.2 i
  rw [List.getElem?_eq_getElem h1, List.getElem?_eq_getElem h2] at a b
  cases hv : v[i] <;> cases hw : w[i] <;> simp_all
def both (v w : List Bool) : List Bool := List.zipWith (fun a b => a && b) v w
theorem both_len {v w : List Bool} (h : v.length = w.length) : (both v w).length = v.length := by simp [both, h]
theorem both_get {v w : List Bool} (h : v.length = w.length) (k : Nat) : (both v w)[k]? = some true ↔ v[k]? = some true ∧ w[k]? = some true := by
  unfold both
  rw [List.getElem?_zipWith]
  rcases Nat.lt_or_ge k v.length with h1 | h1
  · rw [List.getElem?_eq_getElem h1, List.getElem?_eq_getElem (by omega)]
    simp
  · rw [List.getElem?_eq_none h1, List.getElem?_eq_none (by omega)]; simp
theorem both_l {v w : List Bool} (h : v.length = w.length) : Sub (both v w) v := ⟨both_len h, fun k hk => ((both_get h k).1 hk).1⟩
theorem both_r {v w : List Bool} (h : v.length = w.length) : Sub (both v w) w := ⟨(both_len h).trans h, fun k hk => ((both_get h k).1 hk).2⟩
theorem both_sub {u v w : List Bool} (h : Sub u v) (h' : Sub u w) : Sub u (both v w) := by
  have e : v.length = w.length := h.1.symm.trans h'.1
  exact ⟨h.1.trans (both_len e).symm, fun k hk => (both_get e k).2 ⟨h.2 k hk, h'.2 k hk⟩⟩
theorem both_eq {v w : List Bool} (h : v.length = w.length) (e : both v w = v) : Sub v w := by have := both_r h; rw [e] at this; exact this
theorem both_self (v : List Bool) : both v v = v := by
  induction v with
  | nil => rfl
  | cons a v ih => show (a && a) :: both v v = _; rw [ih, Bool.and_self]
theorem sub_set {w v : List Bool} (h : Sub w v) (k : Nat) : Sub (w.set k true) (v.set k true) := by
  refine ⟨by simp [h.1], fun j hj => ?_⟩
  rw [List.getElem?_set] at hj ⊢
  have := h.1
  by_cases e : k = j
  · subst e
    rw [if_pos rfl] at hj ⊢
    split at hj
    · rename_i h1; rw [if_pos (by omega)]
    · cases hj
  · rw [if_neg e] at hj ⊢; exact h.2 j hj
theorem sub_set_self (v : List Bool) (k : Nat) : Sub v (v.set k true) := by
  refine ⟨by simp, fun j hj => ?_⟩
  rw [List.getElem?_set]
  have := (List.getElem?_eq_some_iff.1 hj).1
  by_cases e : k = j
  · subst e; rw [if_pos rfl, if_pos this]
  · rw [if_neg e]; exact hj
def flow (f : Api.Fun) (at1 : Nat) (d : Int) (v : List Bool) : Option (Int × List Bool × List Int) :=
  match f.Code[at1]? with
  | none => none
  | some i =>
    if (eff i).2.2 ≠ 0 ∨ d < (eff i).1 ∨ (i.Op = 9 ∧ d ≠ 1) ∨ f.Depth < d - (eff i).1 + (eff i).2.1 ∨ (i.Op = 3 ∧ v[i.A.toNat]? ≠ some true) ∨ (tgt f at1 i).2 ≠ 0 then none
    else some (d - (eff i).1 + (eff i).2.1, if i.Op = 4 ∨ i.Op = 13 then v.set i.A.toNat true else v, (tgt f at1 i).1)
theorem flow_mono {f : Api.Fun} {at1 : Nat} {d : Int} {v w : List Bool} (h : Sub w v) {d' : Int} {w' : List Bool} {ts : List Int} (hf : flow f at1 d w = some (d', w', ts)) :
    ∃ v', flow f at1 d v = some (d', v', ts) ∧ Sub w' v' := by
  unfold flow at hf ⊢
  split at hf
  · cases hf
  · rename_i i hi
    split at hf
    · cases hf
    · rename_i hc
      simp only [Option.some.injEq, Prod.mk.injEq] at hf
      obtain ⟨rfl, rfl, rfl⟩ := hf
      simp only [not_or] at hc
      obtain ⟨c1, c2, c3, c4, c5, c6⟩ := hc
      rw [if_neg]
      · refine ⟨_, rfl, ?_⟩
        split
        · exact sub_set h _
        · exact h
      · simp only [not_or]
        refine ⟨c1, c2, c3, c4, fun h5 => ?_, c6⟩
        apply c5
        refine ⟨h5.1, fun h6 => h5.2 (h.2 _ h6)⟩
theorem flow_len {f : Api.Fun} {at1 : Nat} {d : Int} {v : List Bool} {d' : Int} {v' : List Bool} {ts : List Int} (h : flow f at1 d v = some (d', v', ts)) : v'.length = v.length ∧ Sub v v' ∧ 0 ≤ d' ∧ d' ≤ f.Depth ∧ (∀ t ∈ ts, 0 ≤ t ∧ t < f.Code.length) := by
  unfold flow at h
  split at h
  · cases h
  · rename_i i hi
    split at h
    · cases h
    · rename_i hc
      simp only [Option.some.injEq, Prod.mk.injEq] at h
      obtain ⟨rfl, rfl, rfl⟩ := h
      simp only [not_or] at hc
      obtain ⟨c1, c2, c3, c4, c5, c6⟩ := hc
      have e := eff_ok (i := i) (Decidable.byContradiction c1)
      refine ⟨by split <;> simp, ?_, by omega, by omega, tgt_in (Decidable.byContradiction c6)⟩
      split
      · exact sub_set_self _ _
      · exact Sub.refl _
def Sat (f : Api.Fun) (X : St) (at1 : Nat) : Prop := ∀ (d : Int) (v : List Bool), X[at1]? = some (some (d, v)) → ∃ d' v' ts, flow f at1 d v = some (d', v', ts) ∧ ∀ t ∈ ts, ∃ w, X[t.toNat]? = some (some (d', w)) ∧ Sub w v'
structure Good0 (f : Api.Fun) (X : St) : Prop where
  len : X.length = f.Code.length
  row : ∀ (t : Nat) (d : Int) (v : List Bool), X[t]? = some (some (d, v)) → v.length = f.Locals.toNat ∧ 0 ≤ d ∧ d ≤ 4096
def first (f : Api.Fun) : List Bool := (List.replicate f.Locals.toNat false).set 0 true
structure Cons (f : Api.Fun) (X : St) : Prop extends Good0 f X where
  start : ∃ v, X[0]? = some (some (0, v)) ∧ Sub v (first f)
  sat : ∀ at1, Sat f X at1
def Le (X Y : St) : Prop := X.length = Y.length ∧ ∀ (t : Nat) (d : Int) (v : List Bool), X[t]? = some (some (d, v)) → ∃ w, Y[t]? = some (some (d, w)) ∧ Sub w v
theorem Le.antisymm {X Y : St} (h : Le X Y) (h' : Le Y X) : X = Y := by
  apply List.ext_getElem?
  intro t
  rcases Nat.lt_or_ge t X.length with h1 | h1
  · have e1 := List.getElem?_eq_getElem h1
    have e2 := List.getElem?_eq_getElem (l := Y) (i := t) (by rw [← h.1]; exact h1)
    cases hx : X[t] with
    | none =>
      cases hy : Y[t]'(by rw [← h.1]; exact h1) with
      | none => rw [e1, e2, hx, hy]
      | some q =>
        rw [hy] at e2
        obtain ⟨w, hw, _⟩ := h'.2 t q.1 q.2 e2
        rw [e1, hx] at hw; cases hw
    | some p =>
      rw [hx] at e1
      obtain ⟨w, hw, s1⟩ := h.2 t p.1 p.2 e1
      obtain ⟨u, hu, s2⟩ := h'.2 t p.1 w hw
      rw [e1] at hu
      simp only [Option.some.injEq] at hu
      have e3 : u = p.2 := by rw [hu]
      subst e3
      rw [e1, hw, s1.antisymm s2]
  · rw [List.getElem?_eq_none h1, List.getElem?_eq_none (by rw [← h.1]; exact h1)]
def Least (f : Api.Fun) (X : St) : Prop := Cons f X ∧ ∀ Y, Cons f Y → Le X Y
theorem Least.uniq {f : Api.Fun} {X Y : St} (h : Least f X) (h' : Least f Y) : X = Y := (h.2 Y h'.1).antisymm (h'.2 X h.1)
def mt (X : St) (t : Nat) (d : Int) (v : List Bool) : Option (St × Bool) :=
  match X[t]? with
  | none => none
  | some none => some (X.set t (some (d, v)), true)
  | some (some (d0, v0)) => if d0 ≠ d then none else if both v0 v = v0 then some (X, false) else some (X.set t (some (d0, both v0 v)), true)
def mts (d : Int) (v : List Bool) : List Int → St → Option (St × List Int)
  | [], X => some (X, [])
  | t :: ts, X => (mt X t.toNat d v).bind fun p => (mts d v ts p.1).bind fun q => some (q.1, if p.2 then t :: q.2 else q.2)
theorem set_get {α : Type} {X : List α} {t u : Nat} {o r : α} (h : (X.set t o)[u]? = some r) : (u = t ∧ r = o) ∨ (u ≠ t ∧ X[u]? = some r) := by
  by_cases e : u = t
  · subst e
    have : u < X.length := by have := (List.getElem?_eq_some_iff.1 h).1; simpa using this
    rw [List.getElem?_set_self this] at h
    exact .inl ⟨rfl, (Option.some.inj h).symm⟩
  · rw [List.getElem?_set_ne (Ne.symm e)] at h
    exact .inr ⟨e, h⟩
theorem mt_good {f : Api.Fun} {X : St} (hX : Good0 f X) {t : Nat} {d : Int} {v : List Bool} (hv : v.length = f.Locals.toNat) (hd : 0 ≤ d ∧ d ≤ 4096) {X' : St} {c : Bool} (h : mt X t d v = some (X', c)) :
    Good0 f X' ∧ (∃ w, X'[t]? = some (some (d, w)) ∧ Sub w v) ∧ (∀ u : Nat, u ≠ t → X'[u]? = X[u]?) ∧ (c = false → X' = X) ∧ (∀ (u : Nat) (d0 : Int) (v0 : List Bool), X[u]? = some (some (d0, v0)) → ∃ w, X'[u]? = some (some (d0, w)) ∧ Sub w v0) := by
  unfold mt at h
  split at h
  · cases h
  · rename_i ht
    simp only [Option.some.injEq, Prod.mk.injEq] at h
    obtain ⟨rfl, rfl⟩ := h
    have hlt := (List.getElem?_eq_some_iff.1 ht).1
    refine ⟨⟨by simp [hX.len], fun u d1 v1 hu => ?_⟩, ⟨v, by rw [List.getElem?_set_self hlt], Sub.refl v⟩, fun u hu => by rw [List.getElem?_set_ne (Ne.symm hu)], fun hc => absurd hc (by simp), fun u d0 v0 hu => ?_⟩
    · rcases set_get hu with ⟨rfl, e⟩ | ⟨_, e⟩
      · cases e; exact ⟨hv, hd⟩
      · exact hX.row u d1 v1 e
    · have : t ≠ u := fun e => by subst e; rw [ht] at hu; cases hu
      exact ⟨v0, by rw [List.getElem?_set_ne this]; exact hu, Sub.refl _⟩
  · rename_i d0 v0 ht
    have hlt := (List.getElem?_eq_some_iff.1 ht).1
    have hr := hX.row t d0 v0 ht
    have hl : v0.length = v.length := hr.1.trans hv.symm
    split at h
    · cases h
    · rename_i hd0
      have hd0 : d0 = d := Decidable.byContradiction hd0
      subst hd0
      split at h
      · rename_i hb
        simp only [Option.some.injEq, Prod.mk.injEq] at h
        obtain ⟨rfl, rfl⟩ := h
        exact ⟨hX, ⟨v0, ht, both_eq hl hb⟩, fun _ _ => rfl, fun _ => rfl, fun u d0 v0 hu => ⟨v0, hu, Sub.refl _⟩⟩
      · simp only [Option.some.injEq, Prod.mk.injEq] at h
        obtain ⟨rfl, rfl⟩ := h
        refine ⟨⟨by simp [hX.len], fun u d1 v1 hu => ?_⟩, ⟨_, by rw [List.getElem?_set_self hlt], both_r hl⟩, fun u hu => by rw [List.getElem?_set_ne (Ne.symm hu)], fun hc => absurd hc (by simp), fun u d1 v1 hu => ?_⟩
        · rcases set_get hu with ⟨rfl, e⟩ | ⟨_, e⟩
          · cases e; exact ⟨(both_len hl).trans hr.1, hr.2⟩
          · exact hX.row u d1 v1 e
        · by_cases e : t = u
          · subst e
            rw [ht] at hu; cases hu
            exact ⟨_, by rw [List.getElem?_set_self hlt], both_l hl⟩
          · exact ⟨v1, by rw [List.getElem?_set_ne e]; exact hu, Sub.refl _⟩
theorem mt_le {X Y : St} {t : Nat} {d : Int} {v w : List Bool} (h : Le X Y) (hy : Y[t]? = some (some (d, w))) (hs : Sub w v) : ∃ X' c, mt X t d v = some (X', c) ∧ Le X' Y := by
  have hlt : t < X.length := by rw [h.1]; exact (List.getElem?_eq_some_iff.1 hy).1
  unfold mt
  cases hx : X[t]? with
  | none => rw [List.getElem?_eq_getElem hlt] at hx; cases hx
  | some o =>
    cases o with
    | none =>
      refine ⟨_, _, rfl, by rw [List.length_set]; exact h.1, fun u d1 v1 hu => ?_⟩
      rcases set_get hu with ⟨rfl, e⟩ | ⟨_, e⟩
      · cases e; exact ⟨w, hy, hs⟩
      · exact h.2 u d1 v1 e
    | some p =>
      obtain ⟨d0, v0⟩ := p
      obtain ⟨w0, h1, h2⟩ := h.2 t d0 v0 hx
      rw [hy] at h1
      simp only [Option.some.injEq, Prod.mk.injEq] at h1
      obtain ⟨rfl, rfl⟩ := h1
      dsimp only
      rw [if_neg (by simp)]
      split
      · exact ⟨_, _, rfl, h⟩
      · refine ⟨_, _, rfl, by rw [List.length_set]; exact h.1, fun u d1 v1 hu => ?_⟩
        rcases set_get hu with ⟨rfl, e⟩ | ⟨_, e⟩
        · cases e; exact ⟨w, hy, both_sub h2 hs⟩
        · exact h.2 u d1 v1 e
theorem mts_good {f : Api.Fun} {d : Int} {v : List Bool} (hv : v.length = f.Locals.toNat) (hd : 0 ≤ d ∧ d ≤ 4096) : ∀ {ts : List Int} {X : St} {X' : St} {l : List Int}, Good0 f X → mts d v ts X = some (X', l) →
    Good0 f X' ∧ (∀ t ∈ ts, ∃ w, X'[t.toNat]? = some (some (d, w)) ∧ Sub w v) ∧ (∀ u : Nat, (∀ t ∈ l, u ≠ t.toNat) → X'[u]? = X[u]?) ∧ (l = [] → X' = X) ∧ (∀ t ∈ l, t ∈ ts) ∧ (∀ (u : Nat) (d0 : Int) (v0 : List Bool), X[u]? = some (some (d0, v0)) → ∃ w, X'[u]? = some (some (d0, w)) ∧ Sub w v0)
  | [], X, X', l, hX, h => by
    cases h
    exact ⟨hX, (fun t ht => by cases ht), fun _ _ => rfl, fun _ => rfl, (fun t ht => by cases ht), fun u d0 v0 hu => ⟨v0, hu, Sub.refl _⟩⟩
  | t :: ts, X, X', l, hX, h => by
    rw [mts] at h
    obtain ⟨p, h1, h⟩ := bs h
    obtain ⟨q, h2, h⟩ := bs h
    obtain ⟨X1, c⟩ := p
    obtain ⟨X2, l2⟩ := q
    dsimp only at h h2
    simp only [Option.some.injEq, Prod.mk.injEq] at h
    obtain ⟨rfl, rfl⟩ := h
    obtain ⟨g1, g2, g3, g4, g5⟩ := mt_good hX hv hd h1
    obtain ⟨k1, k2, k3, k4, k5, k6⟩ := mts_good hv hd g1 h2
    refine ⟨k1, fun t' ht' => ?_, fun u hu => ?_, fun hl => ?_, fun t' ht' => ?_, fun u d0 v0 hu => ?_⟩
    · rcases List.mem_cons.1 ht' with rfl | ht'
      · obtain ⟨w, w1, w2⟩ := g2
        obtain ⟨w', w3, w4⟩ := k6 _ _ _ w1
        exact ⟨w', w3, w4.trans w2⟩
      · exact k2 t' ht'
    · cases c with
      | true =>
        rw [if_pos rfl] at hu
        rw [k3 u fun t' ht' => hu t' (List.mem_cons_of_mem _ ht'), g3 u (hu t (List.mem_cons_self ..))]
      | false =>
        rw [k3 u (by simpa using hu), g4 rfl]
    · cases c with
      | true => cases hl
      | false => rw [k4 (by simpa using hl), g4 rfl]
    · cases c with
      | true =>
        rcases List.mem_cons.1 (by simpa using ht') with rfl | h5
        · exact List.mem_cons_self ..
        · exact List.mem_cons_of_mem _ (k5 t' h5)
      | false => exact List.mem_cons_of_mem _ (k5 t' (by simpa using ht'))
    · obtain ⟨w, w1, w2⟩ := g5 u d0 v0 hu
      obtain ⟨w', w3, w4⟩ := k6 u d0 w w1
      exact ⟨w', w3, w4.trans w2⟩
theorem mts_le {Y : St} {d : Int} {v : List Bool} : ∀ {ts : List Int} {X : St}, Le X Y → (∀ t ∈ ts, ∃ w, Y[t.toNat]? = some (some (d, w)) ∧ Sub w v) → ∃ X' l, mts d v ts X = some (X', l) ∧ Le X' Y
  | [], X, h, _ => ⟨X, [], rfl, h⟩
  | t :: ts, X, h, hts => by
    obtain ⟨w, w1, w2⟩ := hts t (List.mem_cons_self ..)
    obtain ⟨X1, c, h1, h2⟩ := mt_le h w1 w2
    obtain ⟨X2, l, h3, h4⟩ := mts_le h2 fun t' ht' => hts t' (List.mem_cons_of_mem _ ht')
    exact ⟨X2, _, by rw [mts, h1, obind, h3, obind], h4⟩
theorem step_le {f : Api.Fun} {X Y : St} (hY : Cons f Y) (h : Le X Y) {at1 : Nat} {d : Int} {v : List Bool} (hx : X[at1]? = some (some (d, v))) :
    ∃ d' v' ts X' l, flow f at1 d v = some (d', v', ts) ∧ mts d' v' ts X = some (X', l) ∧ Le X' Y := by
  obtain ⟨w, w1, w2⟩ := h.2 at1 d v hx
  obtain ⟨d', w', ts, h1, h2⟩ := hY.sat at1 d w w1
  obtain ⟨v', h3, h4⟩ := flow_mono w2 h1
  obtain ⟨X', l, h5, h6⟩ := mts_le (v := v') h fun t ht => by
    obtain ⟨u, u1, u2⟩ := h2 t ht
    exact ⟨u, u1, u2.trans h4⟩
  exact ⟨d', v', ts, X', l, h3, h5, h6⟩
def cnt (v : List Bool) : Nat := v.count true
def pot (L : Nat) : St → Nat
  | [] => 0
  | none :: X => L + 1 + pot L X
  | some (_, v) :: X => cnt v + pot L X
theorem cnt_le (v : List Bool) : cnt v ≤ v.length := List.count_le_length
theorem cnt_lt : ∀ {v w : List Bool}, v.length = w.length → both v w ≠ v → cnt (both v w) < cnt v
  | [], [], _, h => (h rfl).elim
  | a :: v, b :: w, hl, h => by
    have hle : cnt (both v w) ≤ cnt v := by
      by_cases e : both v w = v
      · rw [e]; exact Nat.le_refl _
      · exact Nat.le_of_lt (cnt_lt (by simpa using hl) e)
    unfold cnt both at *
    simp only [List.zipWith_cons_cons, List.count_cons] at *
    cases a <;> cases b
    · have := cnt_lt (v := v) (w := w) (by simpa using hl) (fun e => h (by simpa [both] using e))
      unfold cnt both at this; simpa using this
    · have := cnt_lt (v := v) (w := w) (by simpa using hl) (fun e => h (by simpa [both] using e))
      unfold cnt both at this; simpa using this
    · simp; omega
    · have := cnt_lt (v := v) (w := w) (by simpa using hl) (fun e => h (by simpa [both] using e))
      unfold cnt both at this; simp; omega
  | [], _ :: _, h, _ => by simp at h
  | _ :: _, [], h, _ => by simp at h
def w1 (L : Nat) : Option (Int × List Bool) → Nat
  | none => L + 1
  | some (_, v) => cnt v
theorem pot_set (L : Nat) : ∀ {X : St} {t : Nat} {o o' : Option (Int × List Bool)}, X[t]? = some o → pot L (X.set t o') + w1 L o = pot L X + w1 L o'
  | [], t, o, o', h => by simp at h
  | x :: X, 0, o, o', h => by
    simp at h; subst h
    have : ∀ y : Option (Int × List Bool), pot L (y :: X) = w1 L y + pot L X := fun y => by cases y <;> rfl
    rw [List.set_cons_zero, this, this]; omega
  | x :: X, t + 1, o, o', h => by
    have ih := pot_set L (X := X) (t := t) (o := o) (o' := o') (by simpa using h)
    have : ∀ (y : Option (Int × List Bool)) (Z : St), pot L (y :: Z) = w1 L y + pot L Z := fun y Z => by cases y <;> rfl
    rw [List.set_cons_succ, this, this]; omega
theorem mt_pot {f : Api.Fun} {X : St} (hX : Good0 f X) {t : Nat} {d : Int} {v : List Bool} (hv : v.length = f.Locals.toNat) {X' : St} {c : Bool} (h : mt X t d v = some (X', c)) :
    pot f.Locals.toNat X' + (if c then 1 else 0) ≤ pot f.Locals.toNat X := by
  unfold mt at h
  split at h
  · cases h
  · rename_i ht
    simp only [Option.some.injEq, Prod.mk.injEq] at h
    obtain ⟨rfl, rfl⟩ := h
    have := pot_set f.Locals.toNat (o' := some (d, v)) ht
    have h2 := cnt_le v
    simp only [w1] at this
    simp only [if_true]; omega
  · rename_i d0 v0 ht
    have hr := hX.row t d0 v0 ht
    split at h
    · cases h
    · split at h
      · simp only [Option.some.injEq, Prod.mk.injEq] at h
        obtain ⟨rfl, rfl⟩ := h
        simp
      · rename_i hb
        simp only [Option.some.injEq, Prod.mk.injEq] at h
        obtain ⟨rfl, rfl⟩ := h
        have := pot_set f.Locals.toNat (o' := some (d0, both v0 v)) ht
        have h2 := cnt_lt (hr.1.trans hv.symm) hb
        simp only [w1] at this
        simp only [if_true]; omega
theorem mts_pot {f : Api.Fun} {d : Int} {v : List Bool} (hv : v.length = f.Locals.toNat) (hd : 0 ≤ d ∧ d ≤ 4096) : ∀ {ts : List Int} {X X' : St} {l : List Int}, Good0 f X → mts d v ts X = some (X', l) → pot f.Locals.toNat X' + l.length ≤ pot f.Locals.toNat X
  | [], X, X', l, hX, h => by cases h; simp
  | t :: ts, X, X', l, hX, h => by
    rw [mts] at h
    obtain ⟨p, h1, h⟩ := bs h
    obtain ⟨q, h2, h⟩ := bs h
    obtain ⟨X1, c⟩ := p
    obtain ⟨X2, l2⟩ := q
    dsimp only at h h2
    simp only [Option.some.injEq, Prod.mk.injEq] at h
    obtain ⟨rfl, rfl⟩ := h
    have g := (mt_good hX hv hd h1).1
    have e1 := mt_pot hX hv h1
    have e2 := mts_pot hv hd g h2
    cases c
    · simp at e1 ⊢; omega
    · simp at e1 ⊢; omega
end Go.Proofs.Ythbjlmoaceaeeaa
set_option linter.unusedVariables false
set_option linter.unusedSimpArgs false
set_option maxRecDepth 100000
set_option maxHeartbeats 1000000
namespace Go.Proofs.Ythbjlmoaceaeeaa
open Go Go.Abs
theorem rowOf_iff {R : List M.Blk} {k : Nat} {l : List Bool} : M.rowOf R k = some l ↔ R[k]? = some (.r l) := by
  unfold M.rowOf
  constructor
  · intro h
    split at h
    · rename_i l' hk; cases h; exact hk
    · cases h
  · intro h; rw [h]
theorem rowOf_app {R : List M.Blk} {k : Nat} {l : List Bool} (h : M.rowOf R k = some l) (b : List M.Blk) : M.rowOf (R ++ b) k = some l := by
  rw [rowOf_iff] at h ⊢
  rw [List.getElem?_append_left (List.getElem?_eq_some_iff.1 h).1]; exact h
theorem rowOf_new (R : List M.Blk) (l : List Bool) : M.rowOf (R ++ [.r l]) R.length = some l := by rw [rowOf_iff]; simp
theorem rowOf_set {R : List M.Blk} {k j : Nat} {l x : List Bool} (h : M.rowOf R j = some l) (hne : j ≠ k) : M.rowOf (R.set k (.r x)) j = some l := by
  rw [rowOf_iff] at h ⊢
  rw [List.getElem?_set_ne (Ne.symm hne)]; exact h
theorem rowOf_set_self {R : List M.Blk} {k : Nat} {l x : List Bool} (h : M.rowOf R k = some l) : M.rowOf (R.set k (.r x)) k = some x := by
  rw [rowOf_iff] at h ⊢
  exact List.getElem?_set_self (List.getElem?_eq_some_iff.1 h).1
def bothF (i : Nat) (c v : List Bool) : List Bool := c.take i ++ both (c.drop i) (v.drop i)
theorem bothF_step {i : Nat} {c v : List Bool} {x y : Bool} (hc : c[i]? = some x) (hv : v[i]? = some y) : bothF i c v = c.take i ++ (x && y) :: both (c.drop (i + 1)) (v.drop (i + 1)) := by
  obtain ⟨h1, e1⟩ := List.getElem?_eq_some_iff.1 hc
  obtain ⟨h2, e2⟩ := List.getElem?_eq_some_iff.1 hv
  unfold bothF both
  rw [List.drop_eq_getElem_cons h1, List.drop_eq_getElem_cons h2, List.zipWith_cons_cons, e1, e2]
theorem bothF_next {i : Nat} {c v : List Bool} {x : Bool} (hc : c[i]? = some x) : bothF (i + 1) c v = c.take i ++ x :: both (c.drop (i + 1)) (v.drop (i + 1)) := by
  unfold bothF
  rw [List.take_add_one, hc]; simp
theorem bothF_eq {i : Nat} {c v : List Bool} {x y : Bool} (hc : c[i]? = some x) (hv : v[i]? = some y) (h : (x && !y) = false) : bothF i c v = bothF (i + 1) c v := by
  rw [bothF_step hc hv, bothF_next hc]
  cases x <;> cases y <;> simp_all
theorem bothF_set {i : Nat} {c v : List Bool} (hc : c[i]? = some true) (hv : v[i]? = some false) : bothF i c v = bothF (i + 1) (c.set i false) v := by
  have h1 := (List.getElem?_eq_some_iff.1 hc).1
  rw [bothF_step hc hv, bothF_next (x := false) (by rw [List.getElem?_set_self h1]), List.take_set_of_le (Nat.le_refl _), List.drop_set_of_lt (by omega)]
  simp
theorem bothF_end {c v : List Bool} {i : Nat} (h : c.length ≤ i) : bothF i c v = c := by
  unfold bothF both
  rw [List.take_of_length_le h, List.drop_eq_nil_of_le h]; simp
theorem bothF_ne {i : Nat} {c v : List Bool} (hc : c[i]? = some true) (hv : v[i]? = some false) : bothF i c v ≠ c := fun e => by
  have h1 := (List.getElem?_eq_some_iff.1 hc).1
  rw [bothF_step hc hv] at e
  have e2 : (c.take i ++ (true && false) :: both (c.drop (i + 1)) (v.drop (i + 1)))[i]? = c[i]? := by rw [e]
  rw [List.getElem?_append_right (by rw [List.length_take]; omega), List.length_take, show i - min i c.length = 0 by omega] at e2
  rw [hc] at e2; simp at e2
theorem bothF_sub {i : Nat} {c v : List Bool} (h : c.length = v.length) : (bothF i c v).length = c.length ∧ Sub (bothF i c v) c := by
  have hl : (bothF i c v).length = c.length := by
    unfold bothF both
    rw [List.length_append, List.length_take, List.length_zipWith, List.length_drop, List.length_drop]; omega
  refine ⟨hl, hl, fun k hk => ?_⟩
  unfold bothF at hk
  rw [List.getElem?_append] at hk
  split at hk
  · rw [List.getElem?_take] at hk
    split at hk
    · exact hk
    · cases hk
  · rename_i h1
    rw [List.length_take] at h1 hk
    have h2 := ((both_get (by simp [h]) _).1 hk).1
    rw [List.getElem?_drop] at h2
    have h3 := (List.getElem?_eq_some_iff.1 h2).1
    rwa [show i + (k - min i c.length) = k by omega] at h2
theorem meetL_ne {set k : Nat} (hne : set ≠ k) {v : List Bool} : ∀ (n i : Nat) (R : List M.Blk) (c : List Bool) (ch : Bool), M.rowOf R k = some c → M.rowOf R set = some v → c.length = v.length → i + n = c.length →
    ∃ R', M.verify_meet_l set k n i R ch = some (R', ch || decide (bothF i c v ≠ c)) ∧ M.rowOf R' k = some (bothF i c v) ∧ R'.length = R.length ∧ ∀ j l, j ≠ k → M.rowOf R j = some l → M.rowOf R' j = some l
  | 0, i, R, c, ch, h1, h2, h3, hi => by
    rw [M.verify_meet_l, bothF_end (by omega)]
    exact ⟨R, by simp, h1, rfl, fun j l _ h => h⟩
  | n + 1, i, R, c, ch, h1, h2, h3, hi => by
    have hx : c[i]? = some c[i] := List.getElem?_eq_getElem (by omega)
    have hy : v[i]? = some v[i] := List.getElem?_eq_getElem (by omega)
    rw [M.verify_meet_l, h1, obind, hx, obind]
    cases hc : c[i] with
    | false =>
      rw [hc] at hx
      obtain ⟨R', r1, r2, r3, r4⟩ := meetL_ne hne n (i + 1) R c ch h1 h2 h3 (by omega)
      rw [bothF_eq hx hy (by simp)]
      exact ⟨R', by simpa using r1, r2, r3, r4⟩
    | true =>
      rw [hc] at hx
      rw [if_pos rfl, h2, obind, hy, obind]
      cases hv : v[i] with
      | true =>
        rw [hv] at hy
        obtain ⟨R', r1, r2, r3, r4⟩ := meetL_ne hne n (i + 1) R c ch h1 h2 h3 (by omega)
        rw [bothF_eq hx hy (by simp)]
        exact ⟨R', by simpa using r1, r2, r3, r4⟩
      | false =>
        rw [hv] at hy
        obtain ⟨R', r1, r2, r3, r4⟩ := meetL_ne hne n (i + 1) (R.set k (.r (c.set i false))) (c.set i false) true (rowOf_set_self h1) (rowOf_set h2 hne) (by simpa using h3) (by simpa using (show i + 1 + n = c.length by omega))
        rw [bothF_set hx hy]
        refine ⟨R', ?_, r2, by simpa using r3, fun j l hj hl => r4 j l hj (rowOf_set hl hj)⟩
        have : bothF (i + 1) (c.set i false) v ≠ c := by rw [← bothF_set hx hy]; exact bothF_ne hx hy
        simpa [this] using r1
theorem meetL_eq {k : Nat} {c : List Bool} : ∀ (n i : Nat) (R : List M.Blk) (ch : Bool), M.rowOf R k = some c → i + n = c.length → M.verify_meet_l k k n i R ch = some (R, ch)
  | 0, i, R, ch, h1, hi => by rw [M.verify_meet_l]
  | n + 1, i, R, ch, h1, hi => by
    have hx : c[i]? = some c[i] := List.getElem?_eq_getElem (by omega)
    rw [M.verify_meet_l, h1, obind, hx, obind, obind, hx, obind]
    have ih := meetL_eq n (i + 1) R ch h1 (by omega)
    cases c[i]
    · simpa using ih
    · simpa using ih
structure Rl (f : Api.Fun) (s : M.VS) (X : St) : Prop where
  hf : s.f = f
  dl : s.D.length = f.Code.length
  sl : s.S.length = f.Code.length
  rel : ∀ t : Nat, t < f.Code.length → (X[t]? = some none ∧ s.D[t]? = some (-1) ∧ s.S[t]? = some none) ∨
    (∃ (d : Int) (r : List Bool) (k : Nat), X[t]? = some (some (d, r)) ∧ s.D[t]? = some d ∧ 0 ≤ d ∧ s.S[t]? = some (some k) ∧ M.rowOf s.R k = some r)
  inj : ∀ (t u k : Nat), s.S[t]? = some (some k) → s.S[u]? = some (some k) → t = u
theorem ixC_some {α : Type} {l : List α} {n : Int} (h : 0 ≤ n ∧ n < l.length) : ixC l n = some () := by rw [ixC, if_pos h]
theorem clC_some {α : Type} {b : Nat} {l : List α} (h : 0 < l.length ∧ 0 < b ∧ l.length * b ≤ 140737488355328) : clC b l = some l := by rw [clC, if_pos h]
theorem meet_rel {f : Api.Fun} (hL : 1 ≤ f.Locals ∧ f.Locals ≤ 4096) {s : M.VS} {X : St} (hR : Rl f s X) (hX : Good0 f X) {t : Int} (ht : 0 ≤ t ∧ t < f.Code.length) {set : Nat} {v : List Bool} (hv : M.rowOf s.R set = some v) (hvl : v.length = f.Locals.toNat)
    {d : Int} (hd : 0 ≤ d) (hq : s.Q.length ≤ 100000000) :
    (mt X t.toNat d v = none → M.verify_meet f.Locals.toNat s t d set = some (false, s)) ∧
    (∀ X' c, mt X t.toNat d v = some (X', c) → ∃ s', M.verify_meet f.Locals.toNat s t d set = some (true, s') ∧ Rl f s' X' ∧ M.rowOf s'.R set = some v ∧ s'.Q = (if c then s.Q ++ [t] else s.Q)) := by
  obtain ⟨j, rfl⟩ : ∃ j : Nat, t = j := ⟨t.toNat, by omega⟩
  have hj : j < f.Code.length := by omega
  simp only [Int.toNat_natCast]
  rw [M.verify_meet, ixC_some (by rw [hR.dl]; omega)]
  simp only [obind, Int.toNat_natCast]
  have happ : app 8 s.Q [(j : Int)] = some (s.Q ++ [(j : Int)]) := app_some (by decide) (by simp; omega)
  rcases hR.rel j hj with ⟨x1, x2, x3⟩ | ⟨d0, r, k, x1, x2, x3, x4, x5⟩
  · have em : mt X j d v = some (X.set j (some (d, v)), true) := by unfold mt; rw [x1]
    refine ⟨fun h => absurd (em.symm.trans h) (by simp), fun X' c h => ?_⟩
    rw [em] at h
    simp only [Option.some.injEq, Prod.mk.injEq] at h
    obtain ⟨rfl, rfl⟩ := h
    rw [x2, obind, ltI_t (by omega), if_pos rfl, ixC_some (by rw [hR.sl]; omega), obind, hv, obind, clC_some ⟨by omega, by decide, by omega⟩, obind, lenN, if_pos hvl, obind, happ, obind]
    refine ⟨_, rfl, ⟨hR.hf, by simp [hR.dl], by simp [hR.sl], fun u hu => ?_, fun a b k' ha hb => ?_⟩, rowOf_app hv _, rfl⟩
    · by_cases e : u = j
      · subst e
        have hx : u < X.length := (List.getElem?_eq_some_iff.1 x1).1
        refine .inr ⟨d, v, s.R.length, List.getElem?_set_self hx, List.getElem?_set_self (by rw [hR.dl]; exact hj), hd, List.getElem?_set_self (by rw [hR.sl]; exact hj), rowOf_new _ _⟩
      · rcases hR.rel u hu with ⟨y1, y2, y3⟩ | ⟨d1, r1, k1, y1, y2, y3, y4, y5⟩
        · exact .inl ⟨by rw [List.getElem?_set_ne (Ne.symm e)]; exact y1, by show (s.D.set j d)[u]? = _; rw [List.getElem?_set_ne (Ne.symm e)]; exact y2, by show (s.S.set j _)[u]? = _; rw [List.getElem?_set_ne (Ne.symm e)]; exact y3⟩
        · exact .inr ⟨d1, r1, k1, by rw [List.getElem?_set_ne (Ne.symm e)]; exact y1, by show (s.D.set j d)[u]? = _; rw [List.getElem?_set_ne (Ne.symm e)]; exact y2, y3, by show (s.S.set j _)[u]? = _; rw [List.getElem?_set_ne (Ne.symm e)]; exact y4, rowOf_app y5 _⟩
    · have old : ∀ u k, s.S[u]? = some (some k) → k < s.R.length := fun u k h => by
        have hu : u < f.Code.length := by have := (List.getElem?_eq_some_iff.1 h).1; rw [hR.sl] at this; exact this
        rcases hR.rel u hu with ⟨_, _, y3⟩ | ⟨d1, r1, k1, y1, y2, y3, y4, y5⟩
        · rw [h] at y3; cases y3
        · rw [h] at y4; cases y4
          rw [rowOf_iff] at y5; exact (List.getElem?_eq_some_iff.1 y5).1
      have ha' : (s.S.set j (some s.R.length))[a]? = some (some k') := ha
      have hb' : (s.S.set j (some s.R.length))[b]? = some (some k') := hb
      rcases set_get ha' with ⟨e1, e2⟩ | ⟨e1, e2⟩ <;> rcases set_get hb' with ⟨e3, e4⟩ | ⟨e3, e4⟩
      · rw [e1, e3]
      · simp only [Option.some.injEq] at e2; have := old _ _ e4; omega
      · simp only [Option.some.injEq] at e4; have := old _ _ e2; omega
      · exact hR.inj a b k' e2 e4
  · have hr := hX.row j d0 r x1
    rw [x2, obind, ltI_f (by omega), if_neg (by simp)]
    unfold mt
    rw [x1]
    dsimp only
    by_cases hdd : d0 = d
    case neg =>
      rw [if_pos hdd, eqI_f hdd]
      refine ⟨fun _ => rfl, fun X' c h => ?_⟩
      cases h
    subst hdd
    rw [eqI_t rfl, if_neg (show ¬ (d0 ≠ d0) by simp)]
    simp only [Bool.not_true, Bool.false_eq_true, if_false]
    rw [ixC_some (by rw [hR.sl]; omega)]
    simp only [obind, x4]
    by_cases hk : set = k
    · subst hk
      rw [hv] at x5
      cases x5
      rw [meetL_eq (c := v) _ 0 s.R false hv (by omega)]
      simp only [obind, Bool.false_eq_true, if_false]
      rw [if_pos (both_self v)]
      refine ⟨fun h => absurd h (by simp), fun X' c h => ?_⟩
      simp only [Option.some.injEq, Prod.mk.injEq] at h
      obtain ⟨rfl, rfl⟩ := h
      exact ⟨_, rfl, hR, hv, rfl⟩
    · obtain ⟨R', r1, r2, r3, r4⟩ := meetL_ne hk f.Locals.toNat 0 s.R r false x5 hv (by omega) (by omega)
      have e0 : bothF 0 r v = both r v := by unfold bothF; simp
      rw [e0] at r1 r2
      rw [r1]
      simp only [obind, Bool.false_or]
      have hrel : ∀ X' : St, X'[j]? = some (some (d0, both r v)) → (∀ u, u ≠ j → X'[u]? = X[u]?) → ∀ q, Rl f ⟨s.f, s.D, s.S, R', q⟩ X' := fun X' g1 g2 q =>
        ⟨hR.hf, hR.dl, hR.sl, fun u hu => by
          by_cases e : u = j
          · subst e
            exact .inr ⟨d0, both r v, k, g1, x2, x3, x4, r2⟩
          · rcases hR.rel u hu with ⟨y1, y2, y3⟩ | ⟨d1, q1, k1, y1, y2, y3, y4, y5⟩
            · exact .inl ⟨by rw [g2 u e]; exact y1, y2, y3⟩
            · refine .inr ⟨d1, q1, k1, by rw [g2 u e]; exact y1, y2, y3, y4, r4 k1 q1 (fun e2 => ?_) y5⟩
              subst e2
              exact e (hR.inj u j k1 y4 x4), hR.inj⟩
      by_cases hb : both r v = r
      · rw [if_pos hb]
        refine ⟨fun h => absurd h (by simp), fun X' c h => ?_⟩
        simp only [Option.some.injEq, Prod.mk.injEq] at h
        obtain ⟨rfl, rfl⟩ := h
        rw [if_neg (by simp [hb])]
        exact ⟨_, rfl, hrel X (by rw [hb]; exact x1) (fun _ _ => rfl) _, r4 set v hk hv, rfl⟩
      · rw [if_neg hb]
        refine ⟨fun h => absurd h (by simp), fun X' c h => ?_⟩
        simp only [Option.some.injEq, Prod.mk.injEq] at h
        obtain ⟨rfl, rfl⟩ := h
        rw [if_pos (by simp [hb]), happ, obind]
        have hx : j < X.length := (List.getElem?_eq_some_iff.1 x1).1
        exact ⟨_, rfl, hrel _ (List.getElem?_set_self hx) (fun u hu => List.getElem?_set_ne (Ne.symm hu)) _, r4 set v hk hv, rfl⟩
theorem visit_l_rel {f : Api.Fun} (hL : 1 ≤ f.Locals ∧ f.Locals ≤ 4096) {set : Nat} {v : List Bool} (hvl : v.length = f.Locals.toNat) {d : Int} (hd : 0 ≤ d ∧ d ≤ 4096) : ∀ {ts : List Int} {s : M.VS} {X : St}, Rl f s X → Good0 f X →
    (∀ t ∈ ts, 0 ≤ t ∧ t < f.Code.length) → M.rowOf s.R set = some v → s.Q.length + ts.length ≤ 100000000 →
    (mts d v ts X = none → ∃ s', M.verify_visit_l f.Locals.toNat d set ts s = some (false, s')) ∧
    (∀ X' l, mts d v ts X = some (X', l) → ∃ s', M.verify_visit_l f.Locals.toNat d set ts s = some (true, s') ∧ Rl f s' X' ∧ s'.Q = s.Q ++ l)
  | [], s, X, hR, hX, ht, hv, hq => by
    refine ⟨fun h => (by (rw [mts] at h; cases h)), fun X' l h => ?_⟩
    rw [mts] at h
    cases h
    exact ⟨s, rfl, hR, by simp⟩
  | t :: ts, s, X, hR, hX, ht, hv, hq => by
    obtain ⟨m1, m2⟩ := meet_rel hL hR hX (ht t (List.mem_cons_self ..)) hv hvl hd.1 (by simp at hq; omega)
    rw [mts, M.verify_visit_l]
    cases hm : mt X t.toNat d v with
    | none =>
      rw [m1 hm]
      exact ⟨fun _ => ⟨s, rfl⟩, nofun⟩
    | some p =>
      obtain ⟨X1, c⟩ := p
      obtain ⟨s1, e1, r1, v1, q1⟩ := m2 X1 c hm
      have g1 := (mt_good hX hvl hd hm).1
      have hq1 : s1.Q.length + ts.length ≤ 100000000 := by
        rw [q1]; simp at hq
        split
        · simp; omega
        · omega
      obtain ⟨k1, k2⟩ := visit_l_rel hL hvl hd (ts := ts) r1 g1 (fun t' ht' => ht t' (List.mem_cons_of_mem _ ht')) v1 hq1
      rw [e1]
      simp only [obind, Bool.not_true, Bool.false_eq_true, if_false]
      cases hm2 : mts d v ts X1 with
      | none => exact ⟨fun _ => k1 hm2, nofun⟩
      | some p2 =>
        obtain ⟨X2, l2⟩ := p2
        refine ⟨nofun, fun X' l h => ?_⟩
        simp only [obind, Option.some.injEq, Prod.mk.injEq] at h
        obtain ⟨rfl, rfl⟩ := h
        obtain ⟨s2, e2, r2, q2⟩ := k2 _ _ hm2
        refine ⟨s2, e2, r2, ?_⟩
        rw [q2, q1]
        cases c <;> simp
theorem rightS_A {p : Api.Program} {f : Api.Fun} {at1 : Nat} {x : Api.Instr} (h : rightS p f at1 x = true) (ho : x.Op = 3 ∨ x.Op = 4 ∨ x.Op = 13) : 0 ≤ x.A ∧ x.A < f.Locals := by
  obtain ⟨op, a, b⟩ := x
  dsimp only at ho
  have key : inn a 0 (f.Locals - 1) = true := by
    cases hi : inn a 0 (f.Locals - 1) with
    | true => rfl
    | false =>
      exfalso
      rw [rightS] at h
      rcases ho with rfl | rfl | rfl
      · by_cases hb : b = 0 <;> simp [hb, hi] at h
      · by_cases hb : b = 0 <;> simp [hb, hi] at h
      · simp [hi] at h
  have := inn_iff.1 key
  dsimp only
  omega
structure FunOk (p : Api.Program) (f : Api.Fun) : Prop where
  head : HeadOk f
  right : ∀ (at1 : Nat) (x : Api.Instr), f.Code[at1]? = some x → rightS p f at1 x = true
theorem tgt_len {f : Api.Fun} {at1 : Nat} {x : Api.Instr} : (tgt f at1 x).1.length ≤ 1000 := by
  unfold tgt
  split
  · simp
  · split
    · simp
    · cases hg : goL at1 x with
      | none => simp
      | some l =>
        have hl : l.length ≤ 1000 := by
          unfold goL at hg
          split at hg
          · cases hg; simp
          · split at hg
            · split at hg
              · rename_i hb
                have := inn_iff.1 hb
                cases hg; rw [upL_len]; omega
              · cases hg
            · cases hg; simp
        dsimp only
        split
        · exact hl
        · simp
theorem visit_rel {p : Api.Program} {f : Api.Fun} (hF : FunOk p f) {fuel : Nat} (hfu : 20000 ≤ fuel) {s : M.VS} {X : St} (hR : Rl f s X) (hX : Good0 f X) {at1 : Nat} {d : Int} {v : List Bool} (hx : X[at1]? = some (some (d, v))) (hq : s.Q.length + 1000 ≤ 100000000) :
    (flow f at1 d v = none → ∃ s', M.verify_visit fuel f.Locals.toNat s (at1 : Int) = some (false, s')) ∧
    (∀ d' v' ts, flow f at1 d v = some (d', v', ts) →
      (mts d' v' ts X = none → ∃ s', M.verify_visit fuel f.Locals.toNat s (at1 : Int) = some (false, s')) ∧
      (∀ X' l, mts d' v' ts X = some (X', l) → ∃ s', M.verify_visit fuel f.Locals.toNat s (at1 : Int) = some (true, s') ∧ Rl f s' X' ∧ s'.Q = s.Q ++ l)) := by
  have hat : at1 < f.Code.length := by rw [← hX.len]; exact (List.getElem?_eq_some_iff.1 hx).1
  have hh := hF.head
  have h1 := hh.l0; have h2 := hh.l1; have h3 := hh.n1; have h4 := hh.d0; have h5 := hh.d1
  obtain ⟨x, hi, _, _⟩ := drop_split (s := f.Code) (i := at1) hat
  have hxr := hF.right at1 x hi
  rcases hR.rel at1 hat with ⟨x1, x2, x3⟩ | ⟨d0, r, k, x1, x2, x3, x4, x5⟩
  · rw [hx] at x1; cases x1
  rw [hx] at x1
  simp only [Option.some.injEq, Prod.mk.injEq] at x1
  obtain ⟨rfl, rfl⟩ := x1
  have hrow := hX.row at1 d v hx
  have hidx : idx s.f.Code (at1 : Int) = some x := idx_some (by omega) (by rw [hR.hf]; simpa using hi)
  unfold M.verify_visit
  rw [hidx, ixC_some (by rw [hR.dl]; omega)]
  simp only [obind, Int.toNat_natCast, x2, effect_M, hR.hf, targets_M h3 hi hfu]
  unfold flow
  rw [hi]
  dsimp only
  by_cases c1 : (eff x).2.2 ≠ 0
  · rw [if_pos (Or.inl c1), eqI_f c1]
    exact ⟨fun _ => ⟨_, rfl⟩, nofun⟩
  have c1 : (eff x).2.2 = 0 := Decidable.byContradiction c1
  have he := eff_ok c1
  rw [eqI_t c1]
  by_cases c2 : d < (eff x).1
  · rw [if_pos (Or.inr (Or.inl c2)), ltI_t c2]
    exact ⟨fun _ => ⟨_, rfl⟩, nofun⟩
  rw [ltI_f (by omega)]
  by_cases c3 : x.Op = 9 ∧ d ≠ 1
  · rw [if_pos (Or.inr (Or.inr (Or.inl c3))), eqI_t c3.1, eqI_f c3.2]
    exact ⟨fun _ => ⟨_, rfl⟩, nofun⟩
  have e3 : ((eqI x.Op 9) && (!(eqI d 1))) = false := by
    by_cases e : x.Op = 9
    · have : d = 1 := Decidable.byContradiction fun h => c3 ⟨e, h⟩
      rw [eqI_t this]; simp
    · rw [eqI_f e]; rfl
  rw [e3]
  simp only [Bool.not_true, Bool.or_self, Bool.false_eq_true, if_false]
  rw [chk64 (by omega) (by omega), obind, chk64 (by omega) (by omega), obind]
  by_cases c4 : f.Depth < d - (eff x).1 + (eff x).2.1
  · rw [if_pos (Or.inr (Or.inr (Or.inr (Or.inl c4)))), ltI_t c4, if_pos rfl, obind]
    exact ⟨fun _ => ⟨_, rfl⟩, nofun⟩
  rw [ltI_f (by omega)]
  simp only [Bool.false_eq_true, if_false]
  have hloc : ∃ b, (if eqI x.Op 3 = true then (ixC s.S (at1 : Int)).bind fun _ => (s.S[at1]?).bind fun o => o.bind fun k => (ltC x.A f.Locals.toNat).bind fun _ => (M.rowOf s.R k).bind fun r => (r[x.A.toNat]?).bind fun x => some (!x) else some false : Option Bool) = some b ∧ (b = true ↔ x.Op = 3 ∧ v[x.A.toNat]? ≠ some true) := by
    by_cases e : x.Op = 3
    · have hA := rightS_A hxr (.inl e)
      have hv : v[x.A.toNat]? = some v[x.A.toNat] := List.getElem?_eq_getElem (by omega)
      rw [eqI_t e, if_pos rfl, ixC_some (by rw [hR.sl]; omega), obind, x4, obind, obind, ltC, if_pos (by omega), obind, x5, obind, hv, obind]
      refine ⟨_, rfl, ?_⟩
      cases v[x.A.toNat] <;> simp [e]
    · rw [eqI_f e]
      exact ⟨false, rfl, by simp [e]⟩
  obtain ⟨b, hb1, hb2⟩ := hloc
  rw [hb1, obind]
  by_cases c5 : x.Op = 3 ∧ v[x.A.toNat]? ≠ some true
  · rw [if_pos (Or.inr (Or.inr (Or.inr (Or.inr (Or.inl c5))))), hb2.2 c5, if_pos rfl]
    exact ⟨fun _ => ⟨_, rfl⟩, nofun⟩
  have hb : b = false := by cases b with | false => rfl | true => exact (c5 (hb2.1 rfl)).elim
  rw [hb]
  simp only [Bool.false_eq_true, if_false]
  by_cases c6 : (tgt f at1 x).2 ≠ 0
  · rw [if_pos (Or.inr (Or.inr (Or.inr (Or.inr (Or.inr c6))))), eqI_f c6]
    exact ⟨fun _ => ⟨_, rfl⟩, nofun⟩
  have c6 : (tgt f at1 x).2 = 0 := Decidable.byContradiction c6
  rw [if_neg (by simp only [not_or]; exact ⟨by simp [c1], c2, c3, c4, c5, by simp [c6]⟩), eqI_t c6]
  simp only [Bool.not_true, Bool.false_eq_true, if_false]
  rw [ixC_some (by rw [hR.sl]; omega)]
  simp only [obind, x4]
  refine ⟨nofun, fun d' v' ts h => ?_⟩
  simp only [Option.some.injEq, Prod.mk.injEq] at h
  obtain ⟨rfl, rfl, rfl⟩ := h
  have hd' : 0 ≤ d - (eff x).1 + (eff x).2.1 ∧ d - (eff x).1 + (eff x).2.1 ≤ 4096 := by omega
  have hadd : ∀ (s1 : M.VS), s1.f = s.f → s1.D = s.D → s1.S = s.S → (∃ b, s1.R = s.R ++ b) → Rl f s1 X := fun s1 a1 a2 a3 a4 => by
    obtain ⟨bb, a4⟩ := a4
    refine ⟨a1.trans hR.hf, by rw [a2]; exact hR.dl, by rw [a3]; exact hR.sl, fun u hu => ?_, by rw [a3]; exact hR.inj⟩
    rcases hR.rel u hu with ⟨y1, y2, y3⟩ | ⟨d1, r1, k1, y1, y2, y3, y4, y5⟩
    · exact .inl ⟨y1, by rw [a2]; exact y2, by rw [a3]; exact y3⟩
    · exact .inr ⟨d1, r1, k1, y1, by rw [a2]; exact y2, y3, by rw [a3]; exact y4, by rw [a4]; exact rowOf_app y5 _⟩
  have htl := tgt_len (f := f) (at1 := at1) (x := x)
  by_cases c7 : x.Op = 4 ∨ x.Op = 13
  · have hA := rightS_A hxr (.inr c7)
    have e7 : ((eqI x.Op 4) || (eqI x.Op 13)) = true := by rcases c7 with c7 | c7 <;> rw [eqI_t c7] <;> simp
    rw [e7, if_pos rfl, x5, obind, clC_some ⟨by omega, by decide, by omega⟩, obind, lenN, if_pos hrow.1, obind, ixC_some ⟨hA.1, by omega⟩, obind, if_pos c7]
    refine visit_l_rel ⟨h1, h2⟩ (by simpa using hrow.1) hd' (hadd _ rfl rfl rfl ⟨[.i x, .r (v.set x.A.toNat true)], by simp [M.VS.add]⟩) hX (tgt_in c6) ?_ (by show s.Q.length + _ ≤ _; omega)
    have : (s.add (.i x)).R.length = s.R.length + 1 := by simp [M.VS.add]
    have h8 := rowOf_new (s.add (.i x)).R (v.set x.A.toNat true)
    rw [this] at h8
    exact h8
  · have e7 : ((eqI x.Op 4) || (eqI x.Op 13)) = false := by rw [eqI_f (fun e => c7 (.inl e)), eqI_f (fun e => c7 (.inr e))]; rfl
    rw [e7, if_neg c7]
    simp only [Bool.false_eq_true, if_false]
    exact visit_l_rel ⟨h1, h2⟩ hrow.1 hd' (hadd _ rfl rfl rfl ⟨[.i x], by simp [M.VS.add]⟩) hX (tgt_in c6) (rowOf_app x5 _) (by show s.Q.length + _ ≤ _; omega)
end Go.Proofs.Ythbjlmoaceaeeaa
set_option linter.unusedVariables false
set_option linter.unusedSimpArgs false
set_option maxRecDepth 100000
set_option maxHeartbeats 1000000
namespace Go.Proofs.Ythbjlmoaceaeeaa
open Go Go.Abs
theorem pot_rep (L n : Nat) : pot L (List.replicate n none) = n * (L + 1) := by
  induction n with
  | zero => simp [pot]
  | succ n ih => rw [List.replicate_succ, pot, ih, Nat.succ_mul]; omega
structure WInv (f : Api.Fun) (s : M.VS) (X : St) : Prop where
  rl : Rl f s X
  good : Good0 f X
  start : ∃ v, X[0]? = some (some (0, v)) ∧ Sub v (first f)
  qok : ∀ q ∈ s.Q, 0 ≤ q ∧ ∃ d v, X[q.toNat]? = some (some (d, v))
  sat : ∀ at1 : Nat, (at1 : Int) ∉ s.Q → Sat f X at1
  least : ∀ Y, Cons f Y → Le X Y
theorem analyze_l_rel {p : Api.Program} {f : Api.Fun} (hF : FunOk p f) {fuel : Nat} (hfu : 20000 ≤ fuel) : ∀ (n : Nat) (s : M.VS) (X : St), WInv f s X → pot f.Locals.toNat X + s.Q.length < n → pot f.Locals.toNat X + s.Q.length ≤ 90000000 →
    ∃ b s', M.verify_analyze_l fuel f.Locals.toNat n s = some (b, s') ∧ (b = true → ∃ X', Least f X' ∧ Rl f s' X') ∧ (b = false → ∀ Y, ¬ Cons f Y)
  | 0, s, X, hI, hn, hb => by omega
  | n + 1, s, X, hI, hn, hb => by
    obtain ⟨sf, sD, sS, sR, sQ⟩ := s
    rw [M.verify_analyze_l]
    cases sQ with
    | nil =>
      refine ⟨true, _, rfl, fun _ => ⟨X, ⟨⟨hI.good, hI.start, fun at1 => hI.sat at1 (by simp)⟩, hI.least⟩, hI.rl⟩, nofun⟩
    | cons q qs =>
      obtain ⟨hq0, d, v, hx⟩ := hI.qok q (List.mem_cons_self ..)
      have hrl : Rl f ⟨sf, sD, sS, sR, qs⟩ X := ⟨hI.rl.hf, hI.rl.dl, hI.rl.sl, hI.rl.rel, hI.rl.inj⟩
      dsimp only at hn hb ⊢
      simp only [List.length_cons] at hn hb
      obtain ⟨v1, v2⟩ := visit_rel hF hfu hrl hI.good hx (by show qs.length + 1000 ≤ _; omega)
      rw [show ((q.toNat : Nat) : Int) = q by omega] at v1 v2
      have fail : (∃ s', M.verify_visit fuel f.Locals.toNat ⟨sf, sD, sS, sR, qs⟩ q = some (false, s')) → (∀ Y, ¬ Cons f Y) →
          ∃ b s', ((M.verify_visit fuel f.Locals.toNat ⟨sf, sD, sS, sR, qs⟩ q).bind fun p => if (!p.1) = true then some (false, p.2) else M.verify_analyze_l fuel f.Locals.toNat n p.2) = some (b, s') ∧ (b = true → ∃ X', Least f X' ∧ Rl f s' X') ∧ (b = false → ∀ Y, ¬ Cons f Y) := by
        rintro ⟨s', h1⟩ h2
        rw [h1]
        exact ⟨false, s', rfl, nofun, fun _ => h2⟩
      cases hf : flow f q.toNat d v with
      | none =>
        refine fail (v1 hf) fun Y hY => ?_
        obtain ⟨d', v', ts, X', l, h1, _⟩ := step_le hY (hI.least Y hY) hx
        rw [hf] at h1; cases h1
      | some r =>
        obtain ⟨d', v', ts⟩ := r
        obtain ⟨w1, w2⟩ := v2 d' v' ts hf
        cases hm : mts d' v' ts X with
        | none =>
          refine fail (w1 hm) fun Y hY => ?_
          obtain ⟨d2, v2, ts2, X', l, h1, h2, _⟩ := step_le hY (hI.least Y hY) hx
          rw [hf] at h1
          simp only [Option.some.injEq, Prod.mk.injEq] at h1
          obtain ⟨rfl, rfl, rfl⟩ := h1
          rw [hm] at h2; cases h2
        | some r2 =>
          obtain ⟨X', l⟩ := r2
          obtain ⟨s', e1, e2, e3⟩ := w2 X' l hm
          obtain ⟨fl1, fl2, fl3, fl4, fl5⟩ := flow_len hf
          have hrow := hI.good.row _ d v hx
          have hv' : v'.length = f.Locals.toNat := fl1.trans hrow.1
          have hd' : 0 ≤ d' ∧ d' ≤ 4096 := ⟨fl3, Int.le_trans fl4 hF.head.d1⟩
          obtain ⟨g1, g2, g3, g4, g5, g6⟩ := mts_good hv' hd' hI.good hm
          have hp := mts_pot hv' hd' hI.good hm
          rw [e1]
          simp only [obind, Bool.not_true, Bool.false_eq_true, if_false]
          have e3' : s'.Q = qs ++ l := e3
          refine analyze_l_rel hF hfu n s' X' ⟨e2, g1, ?_, fun q' hq' => ?_, fun at1 hat => ?_, fun Y hY => ?_⟩ (by rw [e3', List.length_append]; omega) (by rw [e3', List.length_append]; omega)
          · obtain ⟨v0, s1, s2⟩ := hI.start
            obtain ⟨w, k1, k2⟩ := g6 0 0 v0 s1
            exact ⟨w, k1, k2.trans s2⟩
          · rw [e3', List.mem_append] at hq'
            rcases hq' with hq' | hq'
            · obtain ⟨a1, d1, u1, a2⟩ := hI.qok q' (List.mem_cons_of_mem _ hq')
              obtain ⟨w, k1, _⟩ := g6 _ d1 u1 a2
              exact ⟨a1, d1, w, k1⟩
            · have h1 := g5 q' hq'
              obtain ⟨w, k1, _⟩ := g2 q' h1
              exact ⟨(fl5 q' h1).1, d', w, k1⟩
          · rw [e3', List.mem_append, not_or] at hat
            have hun : X'[at1]? = X[at1]? := g3 at1 fun t ht e => hat.2 (by rw [e, Int.toNat_of_nonneg (fl5 t (g5 t ht)).1]; exact ht)
            intro d1 u1 hu1
            rw [hun] at hu1
            by_cases e : at1 = q.toNat
            · subst e
              rw [hx] at hu1
              simp only [Option.some.injEq, Prod.mk.injEq] at hu1
              obtain ⟨rfl, rfl⟩ := hu1
              exact ⟨d', v', ts, hf, g2⟩
            · obtain ⟨d2, u2, ts2, k1, k2⟩ := hI.sat at1 (by rw [List.mem_cons, not_or]; exact ⟨by omega, hat.1⟩) d1 u1 hu1
              refine ⟨d2, u2, ts2, k1, fun t ht => ?_⟩
              obtain ⟨w, k3, k4⟩ := k2 t ht
              obtain ⟨w', k5, k6⟩ := g6 _ d2 w k3
              exact ⟨w', k5, k6.trans k4⟩
          · obtain ⟨d2, v2, ts2, X2, l2, h1, h2, h3⟩ := step_le hY (hI.least Y hY) hx
            rw [hf] at h1
            simp only [Option.some.injEq, Prod.mk.injEq] at h1
            obtain ⟨rfl, rfl, rfl⟩ := h1
            rw [hm] at h2
            simp only [Option.some.injEq, Prod.mk.injEq] at h2
            obtain ⟨rfl, rfl⟩ := h2
            exact h3
theorem mkL_some {α : Type} {b : Nat} {n : Int} {z : α} (h : 0 ≤ n ∧ 0 < b ∧ (b : Int) * n ≤ 281474976710656 ∧ n ≤ 9223372036854775807) : mkL b n z = some (List.replicate n.toNat z) := by rw [mkL, if_pos h]
def X1 (f : Api.Fun) : St := (List.replicate f.Code.length none).set 0 (some (0, first f))
theorem first_len (f : Api.Fun) : (first f).length = f.Locals.toNat := by simp [first]
theorem X0_good (f : Api.Fun) : Good0 f (List.replicate f.Code.length none) := ⟨by simp, fun t d v h => by
  rw [List.getElem?_replicate] at h; split at h <;> simp at h⟩
theorem X1_mt {f : Api.Fun} (hh : HeadOk f) : mt (List.replicate f.Code.length none) 0 0 (first f) = some (X1 f, true) := by
  have := hh.n0
  unfold mt X1
  rw [List.getElem?_replicate, if_pos (by omega)]
theorem X1_least {f : Api.Fun} (hh : HeadOk f) (Y : St) (hY : Cons f Y) : Le (X1 f) Y := by
  obtain ⟨v, h1, h2⟩ := hY.start
  have h0 : Le (List.replicate f.Code.length none) Y := ⟨by simp [hY.len], fun t d v h => by
    rw [List.getElem?_replicate] at h; split at h <;> simp at h⟩
  obtain ⟨X', c, h3, h4⟩ := mt_le h0 h1 h2
  rw [X1_mt hh] at h3
  simp only [Option.some.injEq, Prod.mk.injEq] at h3
  obtain ⟨rfl, rfl⟩ := h3
  exact h4
theorem X1_pot {f : Api.Fun} (hh : HeadOk f) : pot f.Locals.toNat (X1 f) + 1 ≤ 67125248 := by
  have h1 := mt_pot (X0_good f) (first_len f) (X1_mt hh)
  rw [pot_rep] at h1
  have h2 := hh.n1; have h3 := hh.l1
  have h4 : f.Code.length * (f.Locals.toNat + 1) ≤ 16384 * 4097 := Nat.mul_le_mul h2 (by omega)
  simp only [if_true] at h1
  omega
theorem X1_get {f : Api.Fun} {t : Nat} {d : Int} {v : List Bool} (h : (X1 f)[t]? = some (some (d, v))) : t = 0 ∧ d = 0 ∧ v = first f := by
  rcases set_get h with ⟨rfl, e⟩ | ⟨_, e⟩
  · cases e; exact ⟨rfl, rfl, rfl⟩
  · rw [List.getElem?_replicate] at e; split at e <;> simp at e
theorem analyze_M {p : Api.Program} {f : Api.Fun} (hF : FunOk p f) {fuel : Nat} (hfu : 100000000 ≤ fuel) :
    ∃ b s', M.verify_analyze fuel f = some (b, s') ∧ (b = true → ∃ X', Least f X' ∧ Rl f s' X') ∧ (b = false → ∀ Y, ¬ Cons f Y) := by
  have hh := hF.head
  have h1 := hh.l0; have h2 := hh.l1; have h3 := hh.n1; have h4 := hh.n0
  have hp := X1_pot hh
  rw [M.verify_analyze, mkL_some ⟨by omega, by decide, by omega, by omega⟩, obind, mkL_some ⟨by omega, by decide, by omega, by omega⟩, obind, mkL_some ⟨by omega, by decide, by omega, by omega⟩, obind,
    ixC_some (by simp; omega), obind]
  simp only [Int.toNat_natCast]
  have hR0 : Rl f ⟨f, List.replicate f.Code.length (-1), List.replicate f.Code.length none, [.r ((List.replicate f.Locals.toNat false).set 0 true)], []⟩ (List.replicate f.Code.length none) :=
    ⟨rfl, by simp, by simp, fun t ht => .inl ⟨by simp [ht], by simp [ht], by simp [ht]⟩, fun t u k hk => by
      rw [List.getElem?_replicate] at hk; split at hk <;> simp at hk⟩
  obtain ⟨_, m2⟩ := meet_rel (f := f) ⟨h1, h2⟩ hR0 (X0_good f) (t := 0) ⟨by omega, by omega⟩ (set := 0) (v := first f) rfl (first_len f) (d := 0) (by omega) (by simp)
  obtain ⟨s1, e1, e2, e3, e4⟩ := m2 (X1 f) true (X1_mt hh)
  rw [e1]
  simp only [obind, Bool.not_true, Bool.false_eq_true, if_false]
  have e4' : s1.Q = [0] := e4
  have g := (mt_good (X0_good f) (first_len f) (d := 0) (by omega) (X1_mt hh)).1
  have h0 : (X1 f)[0]? = some (some (0, first f)) := List.getElem?_set_self (by simp; omega)
  refine analyze_l_rel hF (by omega) fuel s1 (X1 f) ⟨e2, g, ⟨first f, h0, Sub.refl _⟩, fun q hq => ?_, fun at1 hat => ?_, X1_least hh⟩ (by rw [e4']; simp; omega) (by rw [e4']; simp; omega)
  · rw [e4'] at hq
    rcases List.mem_singleton.1 hq with rfl
    exact ⟨by omega, 0, first f, h0⟩
  · rw [e4'] at hat
    intro d v hx
    obtain ⟨rfl, _, _⟩ := X1_get hx
    exact (hat (by simp)).elim
end Go.Proofs.Ythbjlmoaceaeeaa
set_option linter.unusedVariables false
set_option linter.unusedSimpArgs false
set_option maxRecDepth 100000
set_option maxHeartbeats 1000000
namespace Go.Proofs.Ythbjlmoaceaeeaa
open Go Go.Abs
theorem both_loop {a b : List Bool} (h : a.length = b.length) : ∀ (n k i : Nat), i + n = a.length → n < k → M.ref48_both_l1 a b k ((both a b).take i ++ List.replicate n false) i = some (both a b)
  | 0, k, i, hi, hk => by
    obtain ⟨k, rfl⟩ : ∃ g, k = g + 1 := ⟨k - 1, by omega⟩
    rw [M.ref48_both_l1, ltI_f (by omega), List.take_of_length_le (by rw [both_len h]; omega)]; simp
  | n + 1, k, i, hi, hk => by
    obtain ⟨k, rfl⟩ : ∃ g, k = g + 1 := ⟨k - 1, by omega⟩
    have ih := both_loop h n k (i + 1) (by omega) (by omega)
    have ha : a[i]? = some a[i] := List.getElem?_eq_getElem (by omega)
    have hb : b[i]? = some b[i] := List.getElem?_eq_getElem (by omega)
    have hz : (both a b)[i]? = some (a[i] && b[i]) := by unfold both; rw [List.getElem?_zipWith, ha, hb]
    have hlen : ((both a b).take i).length = i := by rw [List.length_take, both_len h]; omega
    have hset : ∀ y, y = (a[i] && b[i]) → ((both a b).take i ++ List.replicate (n + 1) false).set i y = (both a b).take (i + 1) ++ List.replicate n false := fun y hy => by
      rw [List.set_append_right _ _ (by omega), hlen, Nat.sub_self, List.replicate_succ, List.set_cons_zero, List.take_add_one, hz, hy]; simp
    have hix : ixC ((both a b).take i ++ List.replicate (n + 1) false) (i : Int) = some () := ixC_some (by rw [List.length_append, hlen]; simp; omega)
    rw [M.ref48_both_l1, ltI_t (by omega), if_pos rfl, ha, obind, hix]
    cases hx : a[i] with
    | true => rw [if_pos rfl, hb, obind, obind, obind, hset _ (by rw [hx]; simp)]; exact ih
    | false => rw [if_neg (by simp), obind, obind, hset _ (by rw [hx]; simp)]; exact ih
theorem both_M {a b : List Bool} (h : a.length = b.length) (hl : a.length ≤ 10000) {fuel : Nat} (hf : a.length < fuel) : M.ref48_both fuel a b = some (both a b) := by
  rw [M.ref48_both, mkL_some ⟨by omega, by decide, by omega, by omega⟩, obind]
  have := both_loop h a.length fuel 0 (by omega) hf
  rw [List.take_zero, List.nil_append] at this
  rw [Int.toNat_natCast, this]; rfl
theorem same_loop {a b : List Bool} (h : a.length = b.length) : ∀ (n k i : Nat), i + n = a.length → n < k → M.ref48_same_l1 a b k i = some (if a.drop i = b.drop i then .inr () else .inl false)
  | 0, k, i, hi, hk => by
    obtain ⟨k, rfl⟩ : ∃ g, k = g + 1 := ⟨k - 1, by omega⟩
    rw [M.ref48_same_l1, ltI_f (by omega), List.drop_eq_nil_of_le (by omega), List.drop_eq_nil_of_le (by omega)]; simp
  | n + 1, k, i, hi, hk => by
    obtain ⟨k, rfl⟩ : ∃ g, k = g + 1 := ⟨k - 1, by omega⟩
    have ih := same_loop h n k (i + 1) (by omega) (by omega)
    obtain ⟨x, h1, h2, _⟩ := drop_split (s := a) (i := i) (by omega)
    obtain ⟨y, h3, h4, _⟩ := drop_split (s := b) (i := i) (by omega)
    rw [M.ref48_same_l1, ltI_t (by omega), if_pos rfl, h1, obind, h3, obind, h2, h4]
    cases x <;> cases y
    · rw [if_neg (by decide), ih]; simp
    · rw [if_pos (by decide), if_neg (by simp)]
    · rw [if_pos (by decide), if_neg (by simp)]
    · rw [if_neg (by decide), ih]; simp
theorem same_M {a b : List Bool} (h : a.length = b.length) {fuel : Nat} (hf : a.length < fuel) : M.ref48_same fuel a b = some (decide (a = b)) := by
  rw [M.ref48_same, same_loop h a.length fuel 0 (by omega) hf]
  simp only [List.drop_zero, obind]
  by_cases e : a = b
  · rw [if_pos e, decide_eq_true e]; rfl
  · rw [if_neg e, decide_eq_false e]; rfl
structure Rr (f : Api.Fun) (a : List Bool) (b : List Int) (c : List (List Bool)) (X : St) : Prop where
  al : a.length = f.Code.length
  bl : b.length = f.Code.length
  cl : c.length = f.Code.length
  rel : ∀ t : Nat, t < f.Code.length → (X[t]? = some none ∧ a[t]? = some false ∧ b[t]? = some 0 ∧ c[t]? = some []) ∨
    (∃ (d : Int) (r : List Bool), X[t]? = some (some (d, r)) ∧ a[t]? = some true ∧ b[t]? = some d ∧ c[t]? = some r)
theorem Rr.set {f : Api.Fun} {a : List Bool} {b : List Int} {c : List (List Bool)} {X : St} (h : Rr f a b c X) (hl : X.length = f.Code.length) {j : Nat} (hj : j < f.Code.length) (d : Int) (r : List Bool) : Rr f (a.set j true) (b.set j d) (c.set j r) (X.set j (some (d, r))) := by
  refine ⟨by simp [h.al], by simp [h.bl], by simp [h.cl], fun t ht => ?_⟩
  by_cases e : t = j
  · subst e
    exact .inr ⟨d, r, List.getElem?_set_self (by omega), List.getElem?_set_self (by rw [h.al]; exact hj), List.getElem?_set_self (by rw [h.bl]; exact hj), List.getElem?_set_self (by rw [h.cl]; exact hj)⟩
  · have n := Ne.symm e
    rw [List.getElem?_set_ne n, List.getElem?_set_ne n, List.getElem?_set_ne n, List.getElem?_set_ne n]
    exact h.rel t ht
theorem set_same {α : Type} {l : List α} {j : Nat} {x : α} (h : l[j]? = some x) : l.set j x = l := by
  obtain ⟨h1, h2⟩ := List.getElem?_eq_some_iff.1 h
  rw [← h2]; exact List.set_getElem_self h1
theorem lenC_some {α : Type} {r l : List α} (h : r.length = l.length) : lenC r l = some () := by rw [lenC, if_pos h]
theorem meets_rel {f : Api.Fun} (hL : 1 ≤ f.Locals ∧ f.Locals ≤ 4096) {fuel : Nat} (hfu : 5000 ≤ fuel) {a : List Bool} {b : List Int} {c : List (List Bool)} {X : St} (hR : Rr f a b c X) (hX : Good0 f X) {t : Int} (ht : 0 ≤ t ∧ t < f.Code.length)
    {d : Int} {v : List Bool} (hv : v.length = f.Locals.toNat) :
    (mt X t.toNat d v = none → ∃ e, M.ref48_meets fuel t d v a b c = some (false, e, a, b, c)) ∧
    (∀ X' ch, mt X t.toNat d v = some (X', ch) → ∃ a' b' c', M.ref48_meets fuel t d v a b c = some (true, ch, a', b', c') ∧ Rr f a' b' c' X') := by
  obtain ⟨j, rfl⟩ : ∃ j : Nat, t = j := ⟨t.toNat, by omega⟩
  have hj : j < f.Code.length := by omega
  simp only [Int.toNat_natCast]
  have ia : ixC a (j : Int) = some () := ixC_some (by rw [hR.al]; omega)
  have ib : ixC b (j : Int) = some () := ixC_some (by rw [hR.bl]; omega)
  have ic : ixC c (j : Int) = some () := ixC_some (by rw [hR.cl]; omega)
  rw [M.ref48_meets]
  simp only [ia, ib, ic, obind, Int.toNat_natCast]
  unfold mt
  rcases hR.rel j hj with ⟨x1, x2, x3, x4⟩ | ⟨d0, r, x1, x2, x3, x4⟩
  · simp only [x1, x2, obind, Bool.not_false, if_true]
    refine ⟨nofun, fun X' ch h => ?_⟩
    simp only [Option.some.injEq, Prod.mk.injEq] at h
    obtain ⟨rfl, rfl⟩ := h
    exact ⟨_, _, _, rfl, hR.set hX.len hj d v⟩
  · have hr := hX.row j d0 r x1
    have hrv : r.length = v.length := by rw [hr.1, hv]
    simp only [x1, x2, x3, x4, obind, Bool.not_true, Bool.false_eq_true, if_false]
    by_cases hdd : d0 = d
    case neg =>
      rw [if_pos hdd, eqI_f hdd]
      exact ⟨fun _ => ⟨_, rfl⟩, nofun⟩
    subst hdd
    rw [eqI_t rfl, if_neg (show ¬ (d0 ≠ d0) by simp), both_M hrv (by omega) (by omega)]
    simp only [obind, Bool.not_true, Bool.false_eq_true, if_false]
    rw [same_M (both_len hrv) (by rw [both_len hrv]; omega)]
    simp only [obind]
    by_cases hb : both r v = r
    · rw [if_pos hb, decide_eq_true hb, if_pos rfl]
      refine ⟨nofun, fun X' ch h => ?_⟩
      simp only [Option.some.injEq, Prod.mk.injEq] at h
      obtain ⟨rfl, rfl⟩ := h
      exact ⟨_, _, _, rfl, hR⟩
    · rw [if_neg hb, decide_eq_false hb, if_neg (by simp)]
      refine ⟨nofun, fun X' ch h => ?_⟩
      simp only [Option.some.injEq, Prod.mk.injEq] at h
      obtain ⟨rfl, rfl⟩ := h
      have := hR.set hX.len hj d0 (both r v)
      rw [set_same x2, set_same x3] at this
      exact ⟨_, _, _, rfl, this⟩
def noStates : Ref48.States := Ref48.States.mk ([] : List Bool) ([] : List Int) ([] : List (List Bool))
theorem l3_rel {f : Api.Fun} (hL : 1 ≤ f.Locals ∧ f.Locals ≤ 4096) {fuel : Nat} (hfu : 5000 ≤ fuel) {d : Int} {ok : Bool} {v : List Bool} {ts : List Int} {e : Int} (hv : v.length = f.Locals.toNat) (hd : 0 ≤ d ∧ d ≤ 4096) (hts : ∀ t ∈ ts, 0 ≤ t ∧ t < f.Code.length) :
    ∀ (n k i : Nat) (a : List Bool) (b : List Int) (c : List (List Bool)) (ch : Bool) (X : St), i + n = ts.length → n < k → Rr f a b c X → Good0 f X →
    (mts d v (ts.drop i) X = none → M.ref48_Fun_l3 fuel (d, ok) (ts, e) v k a b c ch i = some (.inl (noStates, false))) ∧
    (∀ X' l, mts d v (ts.drop i) X = some (X', l) → ∃ a' b' c', M.ref48_Fun_l3 fuel (d, ok) (ts, e) v k a b c ch i = some (.inr (ch || !l.isEmpty, a', b', c')) ∧ Rr f a' b' c' X')
  | 0, k, i, a, b, c, ch, X, hi, hk, hR, hX => by
    obtain ⟨k, rfl⟩ : ∃ g, k = g + 1 := ⟨k - 1, by omega⟩
    rw [M.ref48_Fun_l3]
    dsimp only
    rw [ltI_f (by omega), List.drop_eq_nil_of_le (by omega), mts]
    refine ⟨nofun, fun X' l h => ?_⟩
    cases h
    exact ⟨a, b, c, by simp, hR⟩
  | n + 1, k, i, a, b, c, ch, X, hi, hk, hR, hX => by
    obtain ⟨k, rfl⟩ : ∃ g, k = g + 1 := ⟨k - 1, by omega⟩
    obtain ⟨t, h1, h2, h3⟩ := drop_split (s := ts) (i := i) (by omega)
    obtain ⟨m1, m2⟩ := meets_rel hL hfu hR hX (hts t h3) (d := d) hv
    rw [M.ref48_Fun_l3]
    dsimp only
    rw [ltI_t (by omega), if_pos rfl, h1, obind, h2, mts]
    cases hm : mt X t.toNat d v with
    | none =>
      obtain ⟨e, he⟩ := m1 hm
      rw [he]
      simp only [obind, lenC_some, Bool.not_false, if_true]
      exact ⟨fun _ => rfl, nofun⟩
    | some q =>
      obtain ⟨X1, c1⟩ := q
      obtain ⟨a1, b1, c2, e1, r1⟩ := m2 X1 c1 hm
      have g1 := (mt_good hX hv hd hm).1
      obtain ⟨k1, k2⟩ := l3_rel hL hfu (ok := ok) (e := e) hv hd hts n k (i + 1) a1 b1 c2 (ch || c1) X1 (by omega) (by omega) r1 g1
      rw [e1]
      simp only [obind]
      rw [lenC_some (by rw [r1.al, hR.al]), obind, lenC_some (by rw [r1.bl, hR.bl]), obind, lenC_some (by rw [r1.cl, hR.cl]), obind]
      simp only [Bool.not_true, Bool.false_eq_true, if_false]
      cases hm2 : mts d v (ts.drop (i + 1)) X1 with
      | none => exact ⟨fun _ => k1 hm2, nofun⟩
      | some q2 =>
        obtain ⟨X2, l2⟩ := q2
        refine ⟨nofun, fun X' l h => ?_⟩
        simp only [obind, Option.some.injEq, Prod.mk.injEq] at h
        obtain ⟨rfl, rfl⟩ := h
        obtain ⟨a3, b3, c3, k3, k4⟩ := k2 _ _ hm2
        refine ⟨a3, b3, c3, ?_, k4⟩
        rw [k3]
        cases c1 <;> cases ch <;> simp
theorem passes_M {p : Api.Program} {f : Api.Fun} (hF : FunOk p f) {at1 : Nat} {x : Api.Instr} (hi : f.Code[at1]? = some x) {d : Int} (hd : 0 ≤ d ∧ d ≤ 4096) {v : List Bool} (hv : v.length = f.Locals.toNat) :
    ∃ r, M.ref48_passes f (at1 : Int) d v = some r ∧ (r.2 = true → r.1 = d - (eff x).1 + (eff x).2.1) ∧
      (r.2 = false ↔ (eff x).2.2 ≠ 0 ∨ d < (eff x).1 ∨ (x.Op = 9 ∧ d ≠ 1) ∨ f.Depth < d - (eff x).1 + (eff x).2.1 ∨ (x.Op = 3 ∧ v[x.A.toNat]? ≠ some true)) := by
  have hat := (List.getElem?_eq_some_iff.1 hi).1
  have hidx : idx f.Code (at1 : Int) = some x := idx_some (by omega) (by simpa using hi)
  have hxr := hF.right at1 x hi
  rw [M.ref48_passes, hidx]
  simp only [obind, reffect_M]
  by_cases c1 : (eff x).2.2 ≠ 0
  · rw [eqI_f c1]
    exact ⟨(0, false), rfl, nofun, by simp [c1]⟩
  have c1 : (eff x).2.2 = 0 := Decidable.byContradiction c1
  have he := eff_ok c1
  rw [eqI_t c1]
  simp only [Bool.not_true, Bool.false_eq_true, if_false]
  by_cases c2 : d < (eff x).1
  · rw [ltI_t c2]
    exact ⟨(0, false), rfl, nofun, by simp [c2]⟩
  rw [ltI_f (by omega)]
  simp only [Bool.false_eq_true, if_false]
  rw [chk64 (n := d - (eff x).1) (by omega) (by omega)]
  simp only [obind]
  rw [chk64 (n := d - (eff x).1 + (eff x).2.1) (by omega) (by omega)]
  simp only [obind]
  by_cases c3 : x.Op = 9 ∧ d ≠ 1
  · rw [eqI_t c3.1, eqI_f c3.2]
    exact ⟨(0, false), rfl, nofun, by simp [c3.1, c3.2]⟩
  have e3 : (if eqI x.Op 9 = true then if (!eqI d 1) = true then some true else some (ltI f.Depth (d - (eff x).1 + (eff x).2.1)) else some (ltI f.Depth (d - (eff x).1 + (eff x).2.1)) : Option Bool) = some (ltI f.Depth (d - (eff x).1 + (eff x).2.1)) := by
    by_cases e : x.Op = 9
    · have : d = 1 := Decidable.byContradiction fun h => c3 ⟨e, h⟩
      rw [eqI_t e, eqI_t this]; rfl
    · rw [eqI_f e]; rfl
  rw [e3]
  simp only [obind]
  by_cases c4 : f.Depth < d - (eff x).1 + (eff x).2.1
  · rw [ltI_t c4]
    exact ⟨(0, false), rfl, nofun, by simp [c4]⟩
  rw [ltI_f (by omega)]
  simp only [Bool.false_eq_true, if_false]
  by_cases e : x.Op = 3
  · have hA := rightS_A hxr (.inl e)
    have hv : v[x.A.toNat]? = some v[x.A.toNat] := List.getElem?_eq_getElem (by omega)
    rw [eqI_t e]
    simp only [Bool.not_true, Bool.false_eq_true, if_false]
    rw [idx_some hA.1 hv]
    simp only [obind]
    refine ⟨_, rfl, fun _ => rfl, ?_⟩
    rw [hv]
    cases v[x.A.toNat] <;> simp [c1, c4, e] <;> omega
  · rw [eqI_f e]
    refine ⟨_, rfl, fun _ => rfl, ?_⟩
    simp [c1, c4, e]
    refine ⟨by omega, fun h9 => Decidable.byContradiction fun h => c3 ⟨h9, h⟩⟩
theorem after_M {p : Api.Program} {f : Api.Fun} (hF : FunOk p f) {at1 : Nat} {x : Api.Instr} (hi : f.Code[at1]? = some x) {v : List Bool} (hv : v.length = f.Locals.toNat) :
    M.ref48_after x v = some (if x.Op = 4 ∨ x.Op = 13 then v.set x.A.toNat true else v) := by
  have hh := hF.head
  have h1 := hh.l0; have h2 := hh.l1
  have hxr := hF.right at1 x hi
  rw [M.ref48_after, clC_some ⟨by omega, by decide, by omega⟩, obind]
  by_cases c : x.Op = 4 ∨ x.Op = 13
  · have hA := rightS_A hxr (.inr c)
    have e7 : ((eqI x.Op 4) || (eqI x.Op 13)) = true := by rcases c with c | c <;> rw [eqI_t c] <;> simp
    rw [e7, if_pos rfl, ixC_some ⟨hA.1, by omega⟩, obind, if_pos c]
  · have e7 : ((eqI x.Op 4) || (eqI x.Op 13)) = false := by rw [eqI_f (fun e => c (.inl e)), eqI_f (fun e => c (.inr e))]; rfl
    rw [e7, if_neg c]; rfl
end Go.Proofs.Ythbjlmoaceaeeaa
set_option linter.unusedVariables false
set_option linter.unusedSimpArgs false
set_option maxRecDepth 100000
set_option maxHeartbeats 1000000
namespace Go.Proofs.Ythbjlmoaceaeeaa
open Go Go.Abs
structure RInv (f : Api.Fun) (a : List Bool) (b : List Int) (c : List (List Bool)) (X : St) : Prop where
  rr : Rr f a b c X
  good : Good0 f X
  start : ∃ v, X[0]? = some (some (0, v)) ∧ Sub v (first f)
  least : ∀ Y, Cons f Y → Le X Y
theorem l2_rel {p : Api.Program} {f : Api.Fun} (hF : FunOk p f) {fuel : Nat} (hfu : 20000 ≤ fuel) : ∀ (n k i : Nat) (a : List Bool) (b : List Int) (c : List (List Bool)) (ch : Bool) (X : St), i + n = f.Code.length → n < k → RInv f a b c X →
    (M.ref48_Fun_l2 fuel f k a b c ch i = some (.inl (noStates, false)) ∧ ∀ Y, ¬ Cons f Y) ∨
    (∃ ch' a' b' c' X', M.ref48_Fun_l2 fuel f k a b c ch i = some (.inr (ch', a', b', c')) ∧ RInv f a' b' c' X' ∧ pot f.Locals.toNat X' + (if ch' && !ch then 1 else 0) ≤ pot f.Locals.toNat X ∧
      (ch' = false → ch = false ∧ X' = X ∧ ∀ j, i ≤ j → j < f.Code.length → Sat f X j))
  | 0, k, i, a, b, c, ch, X, hi, hk, hI => by
    obtain ⟨k, rfl⟩ : ∃ g, k = g + 1 := ⟨k - 1, by omega⟩
    rw [M.ref48_Fun_l2, ltI_f (by omega), if_neg (by simp)]
    exact .inr ⟨ch, a, b, c, X, rfl, hI, by cases ch <;> simp, fun h => ⟨h, rfl, fun j h1 h2 => by omega⟩⟩
  | n + 1, k, i, a, b, c, ch, X, hi, hk, hI => by
    obtain ⟨k, rfl⟩ : ∃ g, k = g + 1 := ⟨k - 1, by omega⟩
    have hh := hF.head
    have h1 := hh.l0; have h2 := hh.l1; have h3 := hh.n1
    have hit : i < f.Code.length := by omega
    obtain ⟨x, hx, _, _⟩ := drop_split (s := f.Code) (i := i) hit
    rw [M.ref48_Fun_l2, ltI_t (by omega), if_pos rfl, ixC_some (by rw [hI.rr.al]; omega), obind]
    rcases hI.rr.rel i hit with ⟨x1, x2, x3, x4⟩ | ⟨d, v, x1, x2, x3, x4⟩
    · rw [x2, obind, if_pos (by simp)]
      rcases l2_rel hF hfu n k (i + 1) a b c ch X (by omega) (by omega) hI with h | ⟨ch', a', b', c', X', e1, e2, e3, e4⟩
      · exact .inl h
      · refine .inr ⟨ch', a', b', c', X', e1, e2, e3, fun h => ?_⟩
        obtain ⟨k1, k2, k3⟩ := e4 h
        refine ⟨k1, k2, fun j hj1 hj2 => ?_⟩
        by_cases e : j = i
        · subst e; intro d v hd; rw [x1] at hd; cases hd
        · exact k3 j (by omega) hj2
    · have hrow := hI.good.row i d v x1
      obtain ⟨r, p1, p2, p3⟩ := passes_M hF hx ⟨hrow.2.1, hrow.2.2⟩ hrow.1
      rw [x2, obind, if_neg (by simp), ixC_some (by rw [hI.rr.bl]; omega), obind, x3, obind, ixC_some (by rw [hI.rr.cl]; omega), obind, x4, obind, p1, obind, rtargets_M h3 hx hfu, obind]
      obtain ⟨r1, r2⟩ := r
      dsimp only at p2 p3 ⊢
      by_cases hbad : r2 = false ∨ (tgt f i x).2 ≠ 0
      · have hfl : flow f i d v = none := by
          unfold flow
          rw [hx]
          dsimp only
          rw [if_pos]
          rcases hbad with h | h
          · rcases p3.1 h with h | h | h | h | h
            · exact .inl h
            · exact .inr (.inl h)
            · exact .inr (.inr (.inl h))
            · exact .inr (.inr (.inr (.inl h)))
            · exact .inr (.inr (.inr (.inr (.inl h))))
          · exact .inr (.inr (.inr (.inr (.inr h))))
        left
        constructor
        · rw [if_pos]
          · rfl
          · rcases hbad with h | h
            · rw [h]; rfl
            · rw [eqI_f h]; simp
        · intro Y hY
          obtain ⟨d', v', ts, X', l, h1, _⟩ := step_le hY (hI.least Y hY) x1
          rw [hfl] at h1; cases h1
      · rw [not_or] at hbad
        have hr2 : r2 = true := by cases r2 with | true => rfl | false => exact (hbad.1 rfl).elim
        have c6 : (tgt f i x).2 = 0 := Decidable.byContradiction hbad.2
        have hcond := fun h => hbad.1 (p3.2 h)
        have hr1 := p2 hr2
        subst hr1
        have hfl : flow f i d v = some (d - (eff x).1 + (eff x).2.1, if x.Op = 4 ∨ x.Op = 13 then v.set x.A.toNat true else v, (tgt f i x).1) := by
          unfold flow
          rw [hx]
          dsimp only
          rw [if_neg]
          intro h
          rcases h with h | h | h | h | h | h
          · exact hcond (.inl h)
          · exact hcond (.inr (.inl h))
          · exact hcond (.inr (.inr (.inl h)))
          · exact hcond (.inr (.inr (.inr (.inl h))))
          · exact hcond (.inr (.inr (.inr (.inr h))))
          · exact h c6
        obtain ⟨fl1, fl2, fl3, fl4, fl5⟩ := flow_len hfl
        have hv' := fl1.trans hrow.1
        have hd' := And.intro fl3 (Int.le_trans fl4 hh.d1)
        rw [hr2, eqI_t c6, if_neg (by simp), hx, obind, obind, obind, after_M hF hx hrow.1, obind]
        have htl := tgt_len (f := f) (at1 := i) (x := x)
        generalize hts : (tgt f i x).1 = ts at *
        have hpair : tgt f i x = (ts, 0) := by rw [← hts, ← c6]
        rw [hpair]
        obtain ⟨m1, m2⟩ := l3_rel ⟨h1, h2⟩ (fuel := fuel) (by omega) (ok := true) (e := 0) hv' hd' fl5 ts.length fuel 0 a b c ch X (by omega) (by omega) hI.rr hI.good
        rw [List.drop_zero] at m1 m2
        cases hm : mts (d - (eff x).1 + (eff x).2.1) (if x.Op = 4 ∨ x.Op = 13 then v.set x.A.toNat true else v) ts X with
        | none =>
          rw [m1 hm]
          left
          refine ⟨rfl, fun Y hY => ?_⟩
          obtain ⟨d2, v2, ts2, X', l, k1, k2, _⟩ := step_le hY (hI.least Y hY) x1
          rw [hfl] at k1
          simp only [Option.some.injEq, Prod.mk.injEq] at k1
          obtain ⟨rfl, rfl, rfl⟩ := k1
          rw [hm] at k2; cases k2
        | some q =>
          obtain ⟨X1, l⟩ := q
          obtain ⟨a1, b1, c1, e1, e2⟩ := m2 X1 l hm
          obtain ⟨g1, g2, g3, g4, g5, g6⟩ := mts_good hv' hd' hI.good hm
          have hp := mts_pot hv' hd' hI.good hm
          rw [e1]
          simp only [obind, Sum.elim_inr]
          have hI1 : RInv f a1 b1 c1 X1 := by
            refine ⟨e2, g1, ?_, fun Y hY => ?_⟩
            · obtain ⟨v0, s1, s2⟩ := hI.start
              obtain ⟨w, k1, k2⟩ := g6 0 0 v0 s1
              exact ⟨w, k1, k2.trans s2⟩
            · obtain ⟨d2, v2, ts2, X2, l2, k1, k2, k3⟩ := step_le hY (hI.least Y hY) x1
              rw [hfl] at k1
              simp only [Option.some.injEq, Prod.mk.injEq] at k1
              obtain ⟨rfl, rfl, rfl⟩ := k1
              rw [hm] at k2
              simp only [Option.some.injEq, Prod.mk.injEq] at k2
              obtain ⟨rfl, rfl⟩ := k2
              exact k3
          rcases l2_rel hF hfu n k (i + 1) a1 b1 c1 (ch || !l.isEmpty) X1 (by omega) (by omega) hI1 with h | ⟨ch', a', b', c', X', k1, k2, k3, k4⟩
          · exact .inl h
          · refine .inr ⟨ch', a', b', c', X', k1, k2, ?_, fun h => ?_⟩
            · cases l with
              | nil => cases ch <;> cases ch' <;> simp at k3 hp ⊢ <;> omega
              | cons t l => cases ch <;> cases ch' <;> simp at k3 hp ⊢ <;> omega
            · obtain ⟨q1, q2, q3⟩ := k4 h
              have hl : l = [] := by cases l with | nil => rfl | cons t l => simp at q1
              have hX1 := g4 hl
              subst hX1
              refine ⟨by cases ch with | false => rfl | true => simp at q1, q2, fun j hj1 hj2 => ?_⟩
              by_cases e : j = i
              · subst e
                intro d1 u1 hu1
                rw [x1] at hu1
                simp only [Option.some.injEq, Prod.mk.injEq] at hu1
                obtain ⟨rfl, rfl⟩ := hu1
                exact ⟨_, _, _, hfl, g2⟩
              · exact q3 j (by omega) hj2
theorem l1_rel {p : Api.Program} {f : Api.Fun} (hF : FunOk p f) {fuel : Nat} (hfu : 20000 ≤ fuel) : ∀ (k : Nat) (a : List Bool) (b : List Int) (c : List (List Bool)) (X : St) (ch : Bool), RInv f a b c X → pot f.Locals.toNat X + (if ch then 1 else 0) < k → (ch = false → ∀ j, Sat f X j) →
    (M.ref48_Fun_l1 fuel f k a b c ch = some (.inl (noStates, false)) ∧ ∀ Y, ¬ Cons f Y) ∨
    (∃ a' b' c' X', M.ref48_Fun_l1 fuel f k a b c ch = some (.inr (a', b', c')) ∧ Rr f a' b' c' X' ∧ Least f X')
  | 0, a, b, c, X, ch, hI, hk, hs => by omega
  | k + 1, a, b, c, X, ch, hI, hk, hs => by
    rw [M.ref48_Fun_l1]
    cases ch with
    | false =>
      rw [if_neg (by simp)]
      exact .inr ⟨a, b, c, X, rfl, hI.rr, ⟨⟨hI.good, hI.start, hs rfl⟩, hI.least⟩⟩
    | true =>
      rw [if_pos rfl]
      have h3 := hF.head.n1
      rcases l2_rel hF hfu f.Code.length fuel 0 a b c false X (by omega) (by omega) hI with ⟨h1, h2⟩ | ⟨ch', a', b', c', X', e1, e2, e3, e4⟩
      · left
        refine ⟨?_, h2⟩
        rw [h1]; rfl
      · rw [e1]
        simp only [obind, Sum.elim_inr]
        simp only [if_true] at hk
        refine l1_rel hF hfu k a' b' c' X' ch' e2 (by cases ch' <;> simp at e3 ⊢ <;> omega) fun h j => ?_
        obtain ⟨_, q2, q3⟩ := e4 h
        subst q2
        rcases Nat.lt_or_ge j f.Code.length with hj | hj
        · exact q3 j (by omega) hj
        · intro d v hd
          have := (List.getElem?_eq_some_iff.1 hd).1
          rw [e2.good.len] at this; omega
def outD : Option (Int × List Bool) → Int
  | none => -1
  | some (d, _) => d
def outS : Option (Int × List Bool) → List Bool
  | none => []
  | some (_, v) => v
theorem l4_rel {f : Api.Fun} {a : List Bool} {b : List Int} {c : List (List Bool)} {X : St} (hR : Rr f a b c X) (hl : X.length = f.Code.length) : ∀ (n k i : Nat), i + n = f.Code.length → n < k →
    M.ref48_Fun_l4 f (a, b, c) k ((X.map outD).take i ++ b.drop i) i = some (X.map outD)
  | 0, k, i, hi, hk => by
    obtain ⟨k, rfl⟩ : ∃ g, k = g + 1 := ⟨k - 1, by omega⟩
    rw [M.ref48_Fun_l4, ltI_f (by omega), List.take_of_length_le (by simp [hl]; omega), List.drop_eq_nil_of_le (by rw [hR.bl]; omega)]; simp
  | n + 1, k, i, hi, hk => by
    obtain ⟨k, rfl⟩ : ∃ g, k = g + 1 := ⟨k - 1, by omega⟩
    have hit : i < f.Code.length := by omega
    have ih := l4_rel hR hl n k (i + 1) (by omega) (by omega)
    have hlen : ((X.map outD).take i).length = i := by rw [List.length_take, List.length_map, hl]; omega
    have hbd : b.drop i = b[i]'(by rw [hR.bl]; exact hit) :: b.drop (i + 1) := List.drop_eq_getElem_cons _
    rw [M.ref48_Fun_l4, ltI_t (by omega), if_pos rfl]
    dsimp only
    rw [ixC_some (by rw [hR.al]; omega), obind]
    rcases hR.rel i hit with ⟨x1, x2, x3, x4⟩ | ⟨d, v, x1, x2, x3, x4⟩
    · have hm : (X.map outD)[i]? = some (-1) := by rw [List.getElem?_map, x1]; rfl
      rw [x2, obind, if_pos (by simp), ixC_some (by rw [List.length_append, hlen, List.length_drop, hR.bl]; omega), obind]
      have : ((X.map outD).take i ++ b.drop i).set i (-1) = (X.map outD).take (i + 1) ++ b.drop (i + 1) := by
        rw [List.set_append_right _ _ (by omega), hlen, Nat.sub_self, hbd, List.set_cons_zero, List.take_add_one, hm]; simp
      rw [this]; exact ih
    · have hm : (X.map outD)[i]? = some d := by rw [List.getElem?_map, x1]; rfl
      rw [x2, obind, if_neg (by simp)]
      have : (X.map outD).take i ++ b.drop i = (X.map outD).take (i + 1) ++ b.drop (i + 1) := by
        obtain ⟨h1, h2⟩ := List.getElem?_eq_some_iff.1 x3
        rw [hbd, h2, List.take_add_one, hm]; simp
      rw [this]; exact ih
theorem rr_out {f : Api.Fun} {a : List Bool} {b : List Int} {c : List (List Bool)} {X : St} (hR : Rr f a b c X) (hl : X.length = f.Code.length) : a = X.map Option.isSome ∧ c = X.map outS := by
  constructor
  · apply List.ext_getElem?
    intro t
    rcases Nat.lt_or_ge t f.Code.length with ht | ht
    · rcases hR.rel t ht with ⟨x1, x2, x3, x4⟩ | ⟨d, v, x1, x2, x3, x4⟩
      · rw [x2, List.getElem?_map, x1]; rfl
      · rw [x2, List.getElem?_map, x1]; rfl
    · rw [List.getElem?_eq_none (by rw [hR.al]; exact ht), List.getElem?_eq_none (by simp [hl]; exact ht)]
  · apply List.ext_getElem?
    intro t
    rcases Nat.lt_or_ge t f.Code.length with ht | ht
    · rcases hR.rel t ht with ⟨x1, x2, x3, x4⟩ | ⟨d, v, x1, x2, x3, x4⟩
      · rw [x4, List.getElem?_map, x1]; rfl
      · rw [x4, List.getElem?_map, x1]; rfl
    · rw [List.getElem?_eq_none (by rw [hR.cl]; exact ht), List.getElem?_eq_none (by simp [hl]; exact ht)]
def states (X : St) : Ref48.States := ⟨X.map Option.isSome, X.map outD, X.map outS⟩
theorem RFun_M {p : Api.Program} {f : Api.Fun} (hF : FunOk p f) {fuel : Nat} (hfu : 100000000 ≤ fuel) :
    (M.ref48_Fun fuel f = some (noStates, false) ∧ ∀ Y, ¬ Cons f Y) ∨ (∃ X, M.ref48_Fun fuel f = some (states X, true) ∧ Least f X) := by
  have hh := hF.head
  have h1 := hh.l0; have h2 := hh.l1; have h3 := hh.n1; have h4 := hh.n0
  have hp := X1_pot hh
  rw [M.ref48_Fun, mkL_some ⟨by omega, by decide, by omega, by omega⟩, obind, mkL_some ⟨by omega, by decide, by omega, by omega⟩, obind, mkL_some ⟨by omega, by decide, by omega, by omega⟩, obind,
    mkL_some ⟨by omega, by decide, by omega, by omega⟩, obind, ixC_some (by simp; omega), obind]
  simp only [Int.toNat_natCast]
  have hR0 : Rr f (List.replicate f.Code.length false) (List.replicate f.Code.length 0) (List.replicate f.Code.length []) (List.replicate f.Code.length none) :=
    ⟨by simp, by simp, by simp, fun t ht => .inl ⟨by simp [ht], by simp [ht], by simp [ht], by simp [ht]⟩⟩
  obtain ⟨_, m2⟩ := meets_rel (f := f) ⟨h1, h2⟩ (fuel := fuel) (by omega) hR0 (X0_good f) (t := 0) ⟨by omega, by omega⟩ (v := first f) (first_len f) (d := 0)
  obtain ⟨a1, b1, c1, e1, e2⟩ := m2 (X1 f) true (X1_mt hh)
  have e1' : M.ref48_meets fuel 0 0 ((List.replicate f.Locals.toNat false).set 0 true) (List.replicate f.Code.length false) (List.replicate f.Code.length 0) (List.replicate f.Code.length []) = some (true, true, a1, b1, c1) := e1
  rw [e1']
  simp only [obind]
  rw [lenC_some (by rw [e2.al]; simp), obind, lenC_some (by rw [e2.bl]; simp), obind, lenC_some (by rw [e2.cl]; simp), obind]
  have g := (mt_good (X0_good f) (first_len f) (d := 0) (by omega) (X1_mt hh)).1
  have h0 : (X1 f)[0]? = some (some (0, first f)) := List.getElem?_set_self (by simp; omega)
  rcases l1_rel hF (fuel := fuel) (by omega) fuel a1 b1 c1 (X1 f) true ⟨e2, g, ⟨first f, h0, Sub.refl _⟩, X1_least hh⟩ (by simp; omega) nofun with ⟨k1, k2⟩ | ⟨a', b', c', X', k1, k2, k3⟩
  · left
    refine ⟨?_, k2⟩
    rw [k1]; rfl
  · right
    refine ⟨X', ?_, k3⟩
    rw [k1]
    simp only [obind, Sum.elim_inr]
    have hl := k3.1.len
    have := l4_rel k2 hl f.Code.length fuel 0 (by omega) (by omega)
    rw [List.take_zero, List.drop_zero, List.nil_append] at this
    rw [this, obind]
    obtain ⟨q1, q2⟩ := rr_out k2 hl
    rw [q1, q2]; rfl
end Go.Proofs.Ythbjlmoaceaeeaa
