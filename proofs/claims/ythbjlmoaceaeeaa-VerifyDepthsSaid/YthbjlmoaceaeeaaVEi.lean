/- For every input the law VerifyDepths returns true. Part 9 of 12. No condition. -/
import Derived.Test.YthbjlmoaceaeeaaVEh
set_option linter.unusedVariables false
set_option linter.unusedSimpArgs false
set_option maxRecDepth 100000
set_option maxHeartbeats 1000000
namespace Go.Proofs.Ythbjlmoaceaeeaa
open Go Go.Abs
theorem law48_awake_ok (fuel : Nat) (r : Bool) (h : M.law48_awake fuel = some r) : Pure Try.prog 13 [] (.bool r) := by
  rw [M.law48_awake] at h
  refine pure_of_body Try.func13 (by rfl) (by rfl) (by simp) (by simp) (by simp) ?_
  refine cut 41 0 [] [] ?_ ?_
  · refine st ?_
    simp
  obtain ⟨v1, q2, h⟩ := bs h
  refine cut 41 0 [(1, .mptr 0 0)] [(Api.Program.c v1)] ?_ ?_
  · refine st ?_
    simp
    have r48 := law48_one_ok 1 1 [(Api.Instr.mk 1 7 0), (Api.Instr.mk 9 0 0)] v1 q2
    try simp [] at r48
    refine callPure r48 (by simp) rfl ?_
    simp
  obtain ⟨v3, q4, h⟩ := bs h
  refine cut 41 0 [(1, .mptr 0 0), (2, .sl (v3.1.map (cI .i64))), (3, .int .i64 v3.2)] [(Api.Program.c v1)] ?_ ?_
  · refine st ?_
    simp
    have r47 := verify_Depths_ok fuel v1 0 v3 q4
    try simp [] at r47
    refine callPure r47 (by simp) rfl ?_
    simp
  obtain ⟨b31, q32, h⟩ := bs h
  refine cut 41 0 [(0, .bool b31)] [(Api.Program.c v1)] ?_ ?_
  · obtain ⟨v5, q6, q32⟩ := bs q32
    rcases sp q32 with ⟨g7, q32⟩ | ⟨g7, q32⟩
    · have c8 := eqT g7
      rcases sp q32 with ⟨g9, q32⟩ | ⟨g9, q32⟩
      · have c10 := eqT g9
        obtain ⟨l11, q12, q32⟩ := bs q32
        obtain ⟨q13, q14⟩ := lit_ok q12
        obtain ⟨v15, q16, q32⟩ := bs q32
        rcases sp q32 with ⟨g17, q32⟩ | ⟨g17, q32⟩
        · obtain ⟨v18, q19, q32⟩ := bs q32
          obtain ⟨v20, q21, q32⟩ := bs q32
          rcases sp q32 with ⟨g22, q32⟩ | ⟨g22, q32⟩
          · have c23 := eqT g22
            obtain ⟨v24, q25, q32⟩ := bs q32
            obtain ⟨v26, q27, q32⟩ := bs q32
            obtain rfl := oi q32
            refine st ?_
            simp [g7, g9, q13, q14, g17, g22]
            have r33 := verify_Check_ok fuel v1 v5 q6
            try simp [g7, g9, q13, q14, g17, g22] at r33
            refine callPure r33 (by simp) rfl ?_
            simp [g7, g9, q13, q14, g17, g22]
            have r34 := slices_Equal_int_ok fuel v3.1 l11 v15 q16
            try simp [g7, g9, q13, q14, g17, g22] at r34
            refine callPure r34 (by simp) rfl ?_
            simp [g7, g9, q13, q14, g17, g22]
            have r35 := law48_one_ok 1 1 [(Api.Instr.mk 1 7 0), (Api.Instr.mk 15 1 0)] v18 q19
            try simp [g7, g9, q13, q14, g17, g22] at r35
            refine callPure r35 (by simp) rfl ?_
            simp [g7, g9, q13, q14, g17, g22]
            have r36 := verify_Check_ok fuel v18 v20 q21
            try simp [g7, g9, q13, q14, g17, g22] at r36
            refine callPure r36 (by simp) rfl ?_
            simp [g7, g9, q13, q14, g17, g22]
            have r37 := law48_one_ok 2 1 [(Api.Instr.mk 3 1 0), (Api.Instr.mk 9 0 0)] v24 q25
            try simp [g7, g9, q13, q14, g17, g22] at r37
            refine callPure r37 (by simp) rfl ?_
            simp [g7, g9, q13, q14, g17, g22]
            have r38 := verify_Check_ok fuel v24 v26 q27
            try simp [g7, g9, q13, q14, g17, g22] at r38
            refine callPure r38 (by simp) rfl ?_
            simp [g7, g9, q13, q14, g17, g22]
          have c28 := eqF g22
          obtain rfl := oi q32
          refine st ?_
          simp [g7, g9, q13, q14, g17, g22]
          have r39 := verify_Check_ok fuel v1 v5 q6
          try simp [g7, g9, q13, q14, g17, g22] at r39
          refine callPure r39 (by simp) rfl ?_
          simp [g7, g9, q13, q14, g17, g22]
          have r40 := slices_Equal_int_ok fuel v3.1 l11 v15 q16
          try simp [g7, g9, q13, q14, g17, g22] at r40
          refine callPure r40 (by simp) rfl ?_
          simp [g7, g9, q13, q14, g17, g22]
          have r41 := law48_one_ok 1 1 [(Api.Instr.mk 1 7 0), (Api.Instr.mk 15 1 0)] v18 q19
          try simp [g7, g9, q13, q14, g17, g22] at r41
          refine callPure r41 (by simp) rfl ?_
          simp [g7, g9, q13, q14, g17, g22]
          have r42 := verify_Check_ok fuel v18 v20 q21
          try simp [g7, g9, q13, q14, g17, g22] at r42
          refine callPure r42 (by simp) rfl ?_
          simp [g7, g9, q13, q14, g17, g22]
        obtain rfl := oi q32
        refine st ?_
        simp [g7, g9, q13, q14, g17]
        have r43 := verify_Check_ok fuel v1 v5 q6
        try simp [g7, g9, q13, q14, g17] at r43
        refine callPure r43 (by simp) rfl ?_
        simp [g7, g9, q13, q14, g17]
        have r44 := slices_Equal_int_ok fuel v3.1 l11 v15 q16
        try simp [g7, g9, q13, q14, g17] at r44
        refine callPure r44 (by simp) rfl ?_
        simp [g7, g9, q13, q14, g17]
      have c29 := eqF g9
      obtain rfl := oi q32
      refine st ?_
      simp [g7, g9]
      have r45 := verify_Check_ok fuel v1 v5 q6
      try simp [g7, g9] at r45
      refine callPure r45 (by simp) rfl ?_
      simp [g7, g9]
    have c30 := eqF g7
    obtain rfl := oi q32
    refine st ?_
    simp [g7]
    have r46 := verify_Check_ok fuel v1 v5 q6
    try simp [g7] at r46
    refine callPure r46 (by simp) rfl ?_
    simp [g7]
  refine awp_ret ?_
  obtain rfl := oi h
  simp
end Go.Proofs.Ythbjlmoaceaeeaa
set_option linter.unusedVariables false
set_option linter.unusedSimpArgs false
set_option maxRecDepth 100000
set_option maxHeartbeats 1000000
namespace Go.Proofs.Ythbjlmoaceaeeaa
open Go Go.Abs
theorem law48_big_1_ok (s1 : (List UInt8)) (r : Bool) (h : M.law48_big_1 s1 = some r) : Pure Try.prog 47 [.str s1] (.bool r) := by
  rw [M.law48_big_1] at h
  refine pure_of_body Try.func47 (by rfl) (by rfl) (by simp) (by simp) (by simp) ?_
  refine cut 6 0 [(0, .str s1)] [] ?_ ?_
  · refine st ?_
    simp
  refine cut 6 0 [(2, .bool (ltI 1000 (s1.length : Int)))] [] ?_ ?_
  · refine st ?_
    simp
  refine awp_ret ?_
  obtain rfl := oi h
  simp
end Go.Proofs.Ythbjlmoaceaeeaa
set_option linter.unusedVariables false
set_option linter.unusedSimpArgs false
set_option maxRecDepth 100000
set_option maxHeartbeats 1000000
namespace Go.Proofs.Ythbjlmoaceaeeaa
open Go Go.Abs
theorem slices_IndexFunc_string_big_1_ok (fuel : Nat) (s1 : (List (List UInt8))) (r : Int) (h : M.slices_IndexFunc_string_big_1 fuel s1 = some r) : Pure Try.prog 84 [.sl (s1.map cS), .fn (.func 47) [] []] (.int .i64 r) := by
  rw [M.slices_IndexFunc_string_big_1] at h
  refine pure_of_body Try.func84 (by rfl) (by rfl) (by simp) (by simp) (by simp) ?_
  refine cut 19 0 [(0, .sl (s1.map cS)), (1, .fn (.func 47) [] [])] [] ?_ ?_
  · refine st ?_
    simp
  refine awp_seq ?_
  refine cut 19 0 [(0, .sl (s1.map cS)), (1, .fn (.func 47) [] []), (7, .int .i64 (s1.length : Int)), (8, .int .i64 0)] [] ?_ ?_
  · refine st ?_
    simp
  refine awp_block ?_
  obtain ⟨o4, l5, h⟩ := bs h
  refine awp_inv (fun p : Nat × Nat => mkS 19 0 [(0, .sl (s1.map cS)), (1, .fn (.func 47) [] []), (7, .int .i64 (s1.length : Int)), (8, .int .i64 ((p.2 : Nat) : Int))] []) (fun p => M.slices_IndexFunc_string_big_1_l1 s1 p.1 p.2 = some o4) (fun p => p.1) (fuel, 0) l5 (le_mkS (by simp)) ?_
  rintro ⟨k6, i2⟩ l5
  try dsimp only at l5 ⊢
  cases k6 with
  | zero =>
    rw [M.slices_IndexFunc_string_big_1_l1] at l5; cases l5
  | succ k7 =>
    rw [M.slices_IndexFunc_string_big_1_l1] at l5
    refine cut 19 0 [(0, .sl (s1.map cS)), (1, .fn (.func 47) [] []), (7, .int .i64 (s1.length : Int)), (8, .int .i64 ((i2 : Nat) : Int)), (9, .bool (ltI ((i2 : Nat) : Int) (s1.length : Int)))] [] ?_ ?_
    · refine st ?_
      simp
    refine awp_seq ?_
    rcases sp l5 with ⟨g8, l5⟩ | ⟨g8, l5⟩
    · have c9 := ltT g8
      refine condT rfl g8 ?_
      refine factL 0 rfl fun f10 => ?_
      rw [List.length_map] at f10
      refine awp_skip ?_
      refine seq_eq ?_
      refine awp_seq ?_
      refine awp_block ?_
      refine cut 19 0 [(0, .sl (s1.map cS)), (1, .fn (.func 47) [] []), (5, .int .i64 ((i2 : Nat) : Int)), (7, .int .i64 (s1.length : Int)), (8, .int .i64 ((i2 : Nat) : Int))] [] ?_ ?_
      · refine st ?_
        simp
      obtain ⟨x11, q12, l5⟩ := bs l5
      obtain ⟨v13, q14, l5⟩ := bs l5
      refine cut 19 0 [(0, .sl (s1.map cS)), (1, .fn (.func 47) [] []), (5, .int .i64 ((i2 : Nat) : Int)), (7, .int .i64 (s1.length : Int)), (8, .int .i64 ((i2 : Nat) : Int)), (16, .bool v13)] [] ?_ ?_
      · refine st ?_
        simp [q12]
        have r17 := law48_big_1_ok x11 v13 q14
        try simp [q12] at r17
        refine callPure r17 (by simp) rfl ?_
        simp [q12]
      rcases sp l5 with ⟨g15, l5⟩ | ⟨g15, l5⟩
      · refine condT rfl g15 ?_
        refine cut 19 0 [(4, .int .i64 ((i2 : Nat) : Int))] [] ?_ ?_
        · refine st ?_
          simp
        refine awp_ret ?_
        refine ret_blk ?_
        refine ret_seq ?_
        replace h := retL l5 h
        refine ret_seq ?_
        refine ret_blk ?_
        refine ret_seq ?_
        obtain rfl := oi h
        simp
      refine condF rfl g15 ?_
      refine awp_skip ?_
      refine blk_n ?_
      refine seq_eq ?_
      have q16 : Rng .i64 (((i2 : Nat) : Int) + 1) := by simp only [Rng, inR]; omega
      try simp at q16
      refine last 19 0 [(0, .sl (s1.map cS)), (1, .fn (.func 47) [] []), (7, .int .i64 (s1.length : Int)), (8, .int .i64 ((i2 + 1 : Nat) : Int))] [] ?_ fun zz hs => ?_
      · refine st ?_
        simp [q16]
      exact ⟨(k7, i2 + 1), hs, l5, by simp⟩
    have c18 := ltF g8
    refine condF rfl g8 ?_
    refine factL 0 rfl fun f19 => ?_
    rw [List.length_map] at f19
    refine awp_exit ?_
    refine exit_seq ?_
    rcases o4 with o4 | o3
    · cases l5
    have q20 := Sum.inr.inj (Option.some.inj l5)
    replace h := elimR h
    refine exit_seq ?_
    refine exit_blk ?_
    refine seq_le (t := mkS 19 0 [] []) ?_ (le_mkS (by simp []))
    refine cut 19 0 [(4, .int .i64 (-1))] [] ?_ ?_
    · refine st ?_
      simp
    refine awp_ret ?_
    obtain rfl := oi h
    simp
end Go.Proofs.Ythbjlmoaceaeeaa
set_option linter.unusedVariables false
set_option linter.unusedSimpArgs false
set_option maxRecDepth 100000
set_option maxHeartbeats 1000000
namespace Go.Proofs.Ythbjlmoaceaeeaa
open Go Go.Abs
theorem slices_ContainsFunc_string_big_1_ok (fuel : Nat) (s1 : (List (List UInt8))) (r : Bool) (h : M.slices_ContainsFunc_string_big_1 fuel s1 = some r) : Pure Try.prog 46 [.sl (s1.map cS), .fn (.func 47) [] []] (.bool r) := by
  rw [M.slices_ContainsFunc_string_big_1] at h
  refine pure_of_body Try.func46 (by rfl) (by rfl) (by simp) (by simp) (by simp) ?_
  refine cut 9 0 [(0, .sl (s1.map cS)), (1, .fn (.func 47) [] [])] [] ?_ ?_
  · refine st ?_
    simp
  obtain ⟨v2, q3, h⟩ := bs h
  refine cut 9 0 [(4, .bool (leI 0 v2))] [] ?_ ?_
  · refine st ?_
    simp
    have r4 := slices_IndexFunc_string_big_1_ok fuel s1 v2 q3
    try simp [] at r4
    refine callPure r4 (by simp) rfl ?_
    simp
  refine awp_ret ?_
  obtain rfl := oi h
  simp
end Go.Proofs.Ythbjlmoaceaeeaa
set_option linter.unusedVariables false
set_option linter.unusedSimpArgs false
set_option maxRecDepth 100000
set_option maxHeartbeats 1000000
namespace Go.Proofs.Ythbjlmoaceaeeaa
open Go Go.Abs
theorem law48_big_2_ok (f1 : Api.Fun) (r : Bool) (h : M.law48_big_2 f1 = some r) : Pure Try.prog 49 [.agg [.int .i64 f1.Captures, .int .i64 f1.Locals, .int .i64 f1.Depth, .sl (f1.Code.map Api.Instr.c)]] (.bool r) := by
  rw [M.law48_big_2] at h
  refine pure_of_body Try.func49 (by rfl) (by rfl) (by simp) (by simp) (by simp) ?_
  refine cut 17 0 [(1, .mptr 0 0)] [(Api.Fun.c f1)] ?_ ?_
  · refine st ?_
    simp
  refine cut 17 0 [(2, .bool ((ltI 200 (f1.Code.length : Int)) || ((ltI 60 f1.Locals) && (leI f1.Locals 4096))))] [(Api.Fun.c f1)] ?_ ?_
  · rcases tf (ltI 200 (f1.Code.length : Int)) with g2 | g2
    · have c3 := ltT g2
      refine factCL 0 3 rfl rfl rfl fun f4 => ?_
      rw [List.length_map] at f4
      refine st ?_
      simp [g2]
    have c5 := ltF g2
    refine factCL 0 3 rfl rfl rfl fun f6 => ?_
    rw [List.length_map] at f6
    rcases tf (ltI 60 f1.Locals) with g7 | g7
    · have c8 := ltT g7
      refine st ?_
      simp [g2, g7]
    have c9 := ltF g7
    refine st ?_
    simp [g2, g7]
  refine awp_ret ?_
  obtain rfl := oi h
  simp
end Go.Proofs.Ythbjlmoaceaeeaa
set_option linter.unusedVariables false
set_option linter.unusedSimpArgs false
set_option maxRecDepth 100000
set_option maxHeartbeats 1000000
namespace Go.Proofs.Ythbjlmoaceaeeaa
open Go Go.Abs
theorem slices_IndexFunc_api_Fun_big_2_ok (fuel : Nat) (s1 : (List Api.Fun)) (r : Int) (h : M.slices_IndexFunc_api_Fun_big_2 fuel s1 = some r) : Pure Try.prog 85 [.sl (s1.map Api.Fun.c), .fn (.func 49) [] []] (.int .i64 r) := by
  rw [M.slices_IndexFunc_api_Fun_big_2] at h
  refine pure_of_body Try.func85 (by rfl) (by rfl) (by simp) (by simp) (by simp) ?_
  refine cut 19 0 [(0, .sl (s1.map Api.Fun.c)), (1, .fn (.func 49) [] [])] [] ?_ ?_
  · refine st ?_
    simp
  refine awp_seq ?_
  refine cut 19 0 [(0, .sl (s1.map Api.Fun.c)), (1, .fn (.func 49) [] []), (7, .int .i64 (s1.length : Int)), (8, .int .i64 0)] [] ?_ ?_
  · refine st ?_
    simp
  refine awp_block ?_
  obtain ⟨o4, l5, h⟩ := bs h
  refine awp_inv (fun p : Nat × Nat => mkS 19 0 [(0, .sl (s1.map Api.Fun.c)), (1, .fn (.func 49) [] []), (7, .int .i64 (s1.length : Int)), (8, .int .i64 ((p.2 : Nat) : Int))] []) (fun p => M.slices_IndexFunc_api_Fun_big_2_l1 s1 p.1 p.2 = some o4) (fun p => p.1) (fuel, 0) l5 (le_mkS (by simp)) ?_
  rintro ⟨k6, i2⟩ l5
  try dsimp only at l5 ⊢
  cases k6 with
  | zero =>
    rw [M.slices_IndexFunc_api_Fun_big_2_l1] at l5; cases l5
  | succ k7 =>
    rw [M.slices_IndexFunc_api_Fun_big_2_l1] at l5
    refine cut 19 0 [(0, .sl (s1.map Api.Fun.c)), (1, .fn (.func 49) [] []), (7, .int .i64 (s1.length : Int)), (8, .int .i64 ((i2 : Nat) : Int)), (9, .bool (ltI ((i2 : Nat) : Int) (s1.length : Int)))] [] ?_ ?_
    · refine st ?_
      simp
    refine awp_seq ?_
    rcases sp l5 with ⟨g8, l5⟩ | ⟨g8, l5⟩
    · have c9 := ltT g8
      refine condT rfl g8 ?_
      refine factL 0 rfl fun f10 => ?_
      rw [List.length_map] at f10
      refine awp_skip ?_
      refine seq_eq ?_
      refine awp_seq ?_
      refine awp_block ?_
      refine cut 19 0 [(0, .sl (s1.map Api.Fun.c)), (1, .fn (.func 49) [] []), (5, .int .i64 ((i2 : Nat) : Int)), (7, .int .i64 (s1.length : Int)), (8, .int .i64 ((i2 : Nat) : Int))] [] ?_ ?_
      · refine st ?_
        simp
      obtain ⟨x11, q12, l5⟩ := bs l5
      obtain ⟨v13, q14, l5⟩ := bs l5
      refine cut 19 0 [(0, .sl (s1.map Api.Fun.c)), (1, .fn (.func 49) [] []), (5, .int .i64 ((i2 : Nat) : Int)), (7, .int .i64 (s1.length : Int)), (8, .int .i64 ((i2 : Nat) : Int)), (16, .bool v13)] [] ?_ ?_
      · refine st ?_
        simp [q12]
        have r17 := law48_big_2_ok x11 v13 q14
        try simp [q12] at r17
        refine callPure r17 (by simp) rfl ?_
        simp [q12]
      rcases sp l5 with ⟨g15, l5⟩ | ⟨g15, l5⟩
      · refine condT rfl g15 ?_
        refine cut 19 0 [(4, .int .i64 ((i2 : Nat) : Int))] [] ?_ ?_
        · refine st ?_
          simp
        refine awp_ret ?_
        refine ret_blk ?_
        refine ret_seq ?_
        replace h := retL l5 h
        refine ret_seq ?_
        refine ret_blk ?_
        refine ret_seq ?_
        obtain rfl := oi h
        simp
      refine condF rfl g15 ?_
      refine awp_skip ?_
      refine blk_n ?_
      refine seq_eq ?_
      have q16 : Rng .i64 (((i2 : Nat) : Int) + 1) := by simp only [Rng, inR]; omega
      try simp at q16
      refine last 19 0 [(0, .sl (s1.map Api.Fun.c)), (1, .fn (.func 49) [] []), (7, .int .i64 (s1.length : Int)), (8, .int .i64 ((i2 + 1 : Nat) : Int))] [] ?_ fun zz hs => ?_
      · refine st ?_
        simp [q16]
      exact ⟨(k7, i2 + 1), hs, l5, by simp⟩
    have c18 := ltF g8
    refine condF rfl g8 ?_
    refine factL 0 rfl fun f19 => ?_
    rw [List.length_map] at f19
    refine awp_exit ?_
    refine exit_seq ?_
    rcases o4 with o4 | o3
    · cases l5
    have q20 := Sum.inr.inj (Option.some.inj l5)
    replace h := elimR h
    refine exit_seq ?_
    refine exit_blk ?_
    refine seq_le (t := mkS 19 0 [] []) ?_ (le_mkS (by simp []))
    refine cut 19 0 [(4, .int .i64 (-1))] [] ?_ ?_
    · refine st ?_
      simp
    refine awp_ret ?_
    obtain rfl := oi h
    simp
end Go.Proofs.Ythbjlmoaceaeeaa
set_option linter.unusedVariables false
set_option linter.unusedSimpArgs false
set_option maxRecDepth 100000
set_option maxHeartbeats 1000000
namespace Go.Proofs.Ythbjlmoaceaeeaa
open Go Go.Abs
theorem slices_ContainsFunc_api_Fun_big_2_ok (fuel : Nat) (s1 : (List Api.Fun)) (r : Bool) (h : M.slices_ContainsFunc_api_Fun_big_2 fuel s1 = some r) : Pure Try.prog 48 [.sl (s1.map Api.Fun.c), .fn (.func 49) [] []] (.bool r) := by
  rw [M.slices_ContainsFunc_api_Fun_big_2] at h
  refine pure_of_body Try.func48 (by rfl) (by rfl) (by simp) (by simp) (by simp) ?_
  refine cut 9 0 [(0, .sl (s1.map Api.Fun.c)), (1, .fn (.func 49) [] [])] [] ?_ ?_
  · refine st ?_
    simp
  obtain ⟨v2, q3, h⟩ := bs h
  refine cut 9 0 [(4, .bool (leI 0 v2))] [] ?_ ?_
  · refine st ?_
    simp
    have r4 := slices_IndexFunc_api_Fun_big_2_ok fuel s1 v2 q3
    try simp [] at r4
    refine callPure r4 (by simp) rfl ?_
    simp
  refine awp_ret ?_
  obtain rfl := oi h
  simp
end Go.Proofs.Ythbjlmoaceaeeaa
set_option linter.unusedVariables false
set_option linter.unusedSimpArgs false
set_option maxRecDepth 100000
set_option maxHeartbeats 1000000
namespace Go.Proofs.Ythbjlmoaceaeeaa
open Go Go.Abs
theorem law48_big_ok (fuel : Nat) (p1 : Api.Program) (r : Bool) (h : M.law48_big fuel p1 = some r) : Pure Try.prog 14 [.agg [.sl (p1.Funs.map Api.Fun.c), .sl (p1.Texts.map cS), .int .i64 p1.Main]] (.bool r) := by
  rw [M.law48_big] at h
  refine pure_of_body Try.func14 (by rfl) (by rfl) (by simp) (by simp) (by simp) ?_
  refine cut 23 0 [(1, .mptr 0 0)] [(Api.Program.c p1)] ?_ ?_
  · refine st ?_
    simp
  obtain ⟨b17, q18, h⟩ := bs h
  refine cut 23 0 [(2, .bool b17)] [(Api.Program.c p1)] ?_ ?_
  · rcases sp q18 with ⟨g2, q18⟩ | ⟨g2, q18⟩
    · have c3 := ltT g2
      refine factCL 0 0 rfl rfl rfl fun f4 => ?_
      rw [List.length_map] at f4
      obtain rfl := oi q18
      refine st ?_
      simp [g2]
    have c5 := ltF g2
    refine factCL 0 0 rfl rfl rfl fun f6 => ?_
    rw [List.length_map] at f6
    rcases sp q18 with ⟨g7, q18⟩ | ⟨g7, q18⟩
    · have c8 := ltT g7
      refine factCL 0 1 rfl rfl rfl fun f9 => ?_
      rw [List.length_map] at f9
      obtain rfl := oi q18
      refine st ?_
      simp [g2, g7]
    have c10 := ltF g7
    refine factCL 0 1 rfl rfl rfl fun f11 => ?_
    rw [List.length_map] at f11
    obtain ⟨v12, q13, q18⟩ := bs q18
    rcases sp q18 with ⟨g14, q18⟩ | ⟨g14, q18⟩
    · obtain rfl := oi q18
      refine st ?_
      simp [g2, g7, g14]
      have r19 := slices_ContainsFunc_string_big_1_ok fuel p1.Texts v12 q13
      try simp [g2, g7, g14] at r19
      refine callPure r19 (by simp) rfl ?_
      simp [g2, g7, g14]
    obtain ⟨v15, q16, q18⟩ := bs q18
    obtain rfl := oi q18
    refine st ?_
    simp [g2, g7, g14]
    have r20 := slices_ContainsFunc_string_big_1_ok fuel p1.Texts v12 q13
    try simp [g2, g7, g14] at r20
    refine callPure r20 (by simp) rfl ?_
    simp [g2, g7, g14]
    have r21 := slices_ContainsFunc_api_Fun_big_2_ok fuel p1.Funs v15 q16
    try simp [g2, g7, g14] at r21
    refine callPure r21 (by simp) rfl ?_
    simp [g2, g7, g14]
  refine awp_ret ?_
  obtain rfl := oi h
  simp
end Go.Proofs.Ythbjlmoaceaeeaa
set_option linter.unusedVariables false
set_option linter.unusedSimpArgs false
set_option maxRecDepth 100000
set_option maxHeartbeats 1000000
namespace Go.Proofs.Ythbjlmoaceaeeaa
open Go Go.Abs
theorem slices_Clone_api_Fun_ok (s1 : (List Api.Fun)) (r : (List Api.Fun)) (h : M.slices_Clone_api_Fun s1 = some r) : Raw Try.prog 22 [.sl (s1.map Api.Fun.c)] [] (.msl 0 4 r.length) [row Api.Fun.c r] := by
  rw [M.slices_Clone_api_Fun] at h
  refine raw_of_bodyB Try.func22 (by rfl) (by rfl) (by simp) (by simp) ?_
  refine cut 8 0 [(0, .sl (s1.map Api.Fun.c))] [] ?_ ?_
  · refine st ?_
    simp
  refine awp_seq ?_
  obtain ⟨u2, q3, h⟩ := bs h
  have q4 := neC_ok q3
  refine cut 8 0 [(0, .sl (s1.map Api.Fun.c)), (4, .bool false)] [] ?_ ?_
  · refine st ?_
    simp [q4]
  refine condF rfl rfl ?_
  refine awp_skip ?_
  refine seq_eq ?_
  obtain ⟨l5, q6, h⟩ := bs h
  obtain ⟨q7, q8⟩ := clC_ok q6
  have q9 := clC_row (Api.Fun.c) l5
  try simp at q9
  refine cut 8 0 [(2, .msl 0 4 l5.length)] [row Api.Fun.c l5] ?_ ?_
  · refine st ?_
    simp [q7, q8, q9]
    refine empR ?_
    simp [q7, q8, q9]
  refine awp_ret ?_
  obtain rfl := oi h
  simp
end Go.Proofs.Ythbjlmoaceaeeaa
set_option linter.unusedVariables false
set_option linter.unusedSimpArgs false
set_option maxRecDepth 100000
set_option maxHeartbeats 1000000
namespace Go.Proofs.Ythbjlmoaceaeeaa
open Go Go.Abs
theorem law48_VerifyDepths_1_ok (fuel : Nat) (depth1 : Int) (w2 : Api.Program) (c3 : Int) (r : Int) (h : M.law48_VerifyDepths_1 fuel depth1 w2 c3 = some r) : Raw Try.prog 21 [.int .i64 depth1, .mptr 0 0, .mptr 1 0] [[.sl (w2.Funs.map Api.Fun.c), .sl (w2.Texts.map cS), .int .i64 w2.Main], [.int .i64 c3]] (.int .i64 r) [[.sl (w2.Funs.map Api.Fun.c), .sl (w2.Texts.map cS), .int .i64 w2.Main], [.int .i64 c3]] := by
  rw [M.law48_VerifyDepths_1] at h
  refine raw_of_bodyB Try.func21 (by rfl) (by rfl) (by simp) (by simp) ?_
  refine cut 20 2 [(0, .int .i64 depth1), (1, .mptr 0 0), (2, .mptr 1 0)] [(Api.Program.c w2), [.int .i64 c3]] ?_ ?_
  · refine st ?_
    simp
  refine cut 20 2 [(0, .int .i64 depth1), (1, .mptr 0 0), (2, .mptr 1 0), (5, .mptr 2 0)] [(Api.Program.c w2), [.int .i64 c3], (Api.Program.c w2)] ?_ ?_
  · refine st ?_
    simp
  obtain ⟨v4, q5, h⟩ := bs h
  refine cut 20 2 [(0, .int .i64 depth1), (2, .mptr 1 0), (5, .mptr 2 0)] [(Api.Program.c w2), [.int .i64 c3], [.msl 3 4 v4.length, .sl (w2.Texts.map cS), .int .i64 w2.Main], row Api.Fun.c v4] ?_ ?_
  · refine st ?_
    simp
    have r18 := (slices_Clone_api_Fun_ok w2.Funs v4 q5).frame [] [[.sl (w2.Funs.map Api.Fun.c), .sl (w2.Texts.map cS), .int .i64 w2.Main], [.int .i64 c3], [.sl (w2.Funs.map Api.Fun.c), .sl (w2.Texts.map cS), .int .i64 w2.Main]] (by simp)
    try simp [] at r18
    refine callRaw r18 (by simp []) rfl ?_
    simp
  obtain ⟨u6, q7, h⟩ := bs h
  have q8 := ixC_ok q7
  have q9 := ixC_nat q7
  try simp at q8
  try simp at q9
  obtain ⟨x10, q11, h⟩ := bs h
  have q12 := row_set rc_Api_Fun (x' := (Api.Fun.mk x10.Captures x10.Locals depth1 x10.Code)) (y := .int .i64 depth1) (j := 2) q11 rfl (by decide)
  try simp at q12
  have q13 : (Int.toNat c3) * 4 + 2 + 1 ≤ v4.length * 4 := by have := (List.getElem?_eq_some_iff.1 q11).1; omega
  refine cut 20 2 [(2, .mptr 1 0), (5, .mptr 2 0)] [(Api.Program.c w2), [.int .i64 c3], [.msl 3 4 ((v4.set (Int.toNat c3) (Api.Fun.mk x10.Captures x10.Locals depth1 x10.Code)).length), .sl (w2.Texts.map cS), .int .i64 w2.Main], row Api.Fun.c (v4.set (Int.toNat c3) (Api.Fun.mk x10.Captures x10.Locals depth1 x10.Code))] ?_ ?_
  · refine st ?_
    simp [q8, q9, q11, q13, q12]
  obtain ⟨v14, q15, h⟩ := bs h
  refine cut 20 2 [(4, .int .i64 v14)] [(Api.Program.c w2), [.int .i64 c3], [.sl ((v4.set (Int.toNat c3) (Api.Fun.mk x10.Captures x10.Locals depth1 x10.Code)).map Api.Fun.c), .sl (w2.Texts.map cS), .int .i64 w2.Main]] ?_ ?_
  · refine st ?_
    simp
    refine callFz (by simp) ?_
    simp
    have r17 := verify_Fun_ok fuel (Api.Program.mk (v4.set (Int.toNat c3) (Api.Fun.mk x10.Captures x10.Locals depth1 x10.Code)) w2.Texts w2.Main) c3 v14 q15
    try simp [] at r17
    refine callPure r17 (by simp) rfl ?_
    simp
  refine awp_ret ?_
  obtain rfl := oi h
  simp
end Go.Proofs.Ythbjlmoaceaeeaa
set_option linter.unusedVariables false
set_option linter.unusedSimpArgs false
set_option maxRecDepth 100000
set_option maxHeartbeats 1000000
namespace Go.Proofs.Ythbjlmoaceaeeaa
open Go Go.Abs
theorem law48_VerifyDepths_ok (fuel : Nat) (p1 : Api.Program) (n2 : Int) (more3 : UInt8) (r : Bool) (h : M.law48_VerifyDepths fuel p1 n2 more3 = some r) : Pure Try.prog 4 [.agg [.sl (p1.Funs.map Api.Fun.c), .sl (p1.Texts.map cS), .int .i64 p1.Main], .int .i64 n2, .int .u8 (more3.toNat : Int)] (.bool r) := by
  rw [M.law48_VerifyDepths] at h
  refine pure_of_body Try.func4 (by rfl) (by rfl) (by simp) (by simp) (by simp) ?_
  refine cut 133 0 [(2, .int .u8 (more3.toNat : Int)), (3, .mptr 0 0), (4, .mptr 1 0)] [(Api.Program.c p1), [.int .i64 n2]] ?_ ?_
  · refine st ?_
    simp
  refine awp_seq ?_
  obtain ⟨v4, q5, h⟩ := bs h
  refine cut 133 0 [(2, .int .u8 (more3.toNat : Int)), (3, .mptr 0 0), (4, .mptr 1 0), (17, .bool (!v4))] [(Api.Program.c p1), [.int .i64 n2]] ?_ ?_
  · refine st ?_
    simp
    have r130 := law48_awake_ok fuel v4 q5
    try simp [] at r130
    refine callPure r130 (by simp) rfl ?_
    simp
  rcases sp h with ⟨g6, h⟩ | ⟨g6, h⟩
  · have g7 := notT g6
    refine condT rfl g6 ?_
    refine cut 133 0 [(6, .bool false)] [(Api.Program.c p1), [.int .i64 n2]] ?_ ?_
    · refine st ?_
      simp
    refine awp_ret ?_
    refine ret_seq ?_
    obtain rfl := oi h
    simp
  have g8 := notF g6
  refine condF rfl g6 ?_
  refine awp_skip ?_
  refine seq_eq ?_
  refine awp_seq ?_
  obtain ⟨b22, q23, h⟩ := bs h
  refine cut 133 0 [(2, .int .u8 (more3.toNat : Int)), (3, .mptr 0 0), (4, .mptr 1 0), (36, .bool b22)] [(Api.Program.c p1), [.int .i64 n2]] ?_ ?_
  · obtain ⟨v9, q10, q23⟩ := bs q23
    rcases sp q23 with ⟨g11, q23⟩ | ⟨g11, q23⟩
    · obtain rfl := oi q23
      refine st ?_
      simp [g11]
      have r123 := law48_big_ok fuel p1 v9 q10
      try simp [g11] at r123
      refine callPure r123 (by simp) rfl ?_
      simp [g11]
    obtain ⟨v12, q13, q23⟩ := bs q23
    rcases sp q23 with ⟨g14, q23⟩ | ⟨g14, q23⟩
    · have g15 := notT g14
      have c16 := eqF g15
      obtain rfl := oi q23
      refine st ?_
      simp [g11, g14]
      have r124 := law48_big_ok fuel p1 v9 q10
      try simp [g11, g14] at r124
      refine callPure r124 (by simp) rfl ?_
      simp [g11, g14]
      have r125 := verify_Fun_ok fuel p1 n2 v12 q13
      try simp [g11, g14] at r125
      refine callPure r125 (by simp) rfl ?_
      simp [g11, g14]
    have g17 := notF g14
    have c18 := eqT g17
    rcases sp q23 with ⟨g19, q23⟩ | ⟨g19, q23⟩
    · have c20 := ltT g19
      obtain rfl := oi q23
      refine st ?_
      simp [g11, g14, g19]
      have r126 := law48_big_ok fuel p1 v9 q10
      try simp [g11, g14, g19] at r126
      refine callPure r126 (by simp) rfl ?_
      simp [g11, g14, g19]
      have r127 := verify_Fun_ok fuel p1 n2 v12 q13
      try simp [g11, g14, g19] at r127
      refine callPure r127 (by simp) rfl ?_
      simp [g11, g14, g19]
    have c21 := ltF g19
    obtain rfl := oi q23
    refine st ?_
    simp [g11, g14, g19]
    have r128 := law48_big_ok fuel p1 v9 q10
    try simp [g11, g14, g19] at r128
    refine callPure r128 (by simp) rfl ?_
    simp [g11, g14, g19]
    have r129 := verify_Fun_ok fuel p1 n2 v12 q13
    try simp [g11, g14, g19] at r129
    refine callPure r129 (by simp) rfl ?_
    simp [g11, g14, g19]
  rcases sp h with ⟨g24, h⟩ | ⟨g24, h⟩
  · refine condT rfl g24 ?_
    refine cut 133 0 [(6, .bool true)] [(Api.Program.c p1), [.int .i64 n2]] ?_ ?_
    · refine st ?_
      simp
    refine awp_ret ?_
    refine ret_seq ?_
    obtain rfl := oi h
    simp
  refine condF rfl g24 ?_
  refine awp_skip ?_
  refine seq_eq ?_
  obtain ⟨v25, q26, h⟩ := bs h
  refine cut 133 0 [(2, .int .u8 (more3.toNat : Int)), (3, .mptr 0 0), (4, .mptr 1 0), (7, .sl (v25.1.map (cI .i64))), (8, .int .i64 v25.2)] [(Api.Program.c p1), [.int .i64 n2]] ?_ ?_
  · refine st ?_
    simp
    have r122 := verify_Depths_ok fuel p1 n2 v25 q26
    try simp [] at r122
    refine callPure r122 (by simp) rfl ?_
    simp
  refine awp_seq ?_
  obtain ⟨b36, q37, h⟩ := bs h
  refine cut 133 0 [(2, .int .u8 (more3.toNat : Int)), (3, .mptr 0 0), (4, .mptr 1 0), (7, .sl (v25.1.map (cI .i64))), (56, .bool b36)] [(Api.Program.c p1), [.int .i64 n2]] ?_ ?_
  · rcases sp q37 with ⟨g27, q37⟩ | ⟨g27, q37⟩
    · have g28 := notT g27
      have c29 := eqF g28
      obtain rfl := oi q37
      refine st ?_
      simp [g27]
    have g30 := notF g27
    have c31 := eqT g30
    obtain ⟨x32, q33, q37⟩ := bs q37
    obtain ⟨q34, q35⟩ := idx_ok q33
    obtain rfl := oi q37
    refine st ?_
    simp [g27, q34, q35]
  rcases sp h with ⟨g38, h⟩ | ⟨g38, h⟩
  · refine condT rfl g38 ?_
    refine cut 133 0 [(6, .bool false)] [(Api.Program.c p1), [.int .i64 n2]] ?_ ?_
    · refine st ?_
      simp
    refine awp_ret ?_
    refine ret_seq ?_
    obtain rfl := oi h
    simp
  refine condF rfl g38 ?_
  refine awp_skip ?_
  refine seq_eq ?_
  refine cut 133 0 [(2, .int .u8 (more3.toNat : Int)), (3, .mptr 0 0), (4, .mptr 1 0), (7, .sl (v25.1.map (cI .i64))), (9, .int .i64 0)] [(Api.Program.c p1), [.int .i64 n2]] ?_ ?_
  · refine st ?_
    simp
  refine awp_seq ?_
  obtain ⟨x39, q40, h⟩ := bs h
  obtain ⟨q41, q42⟩ := idx_ok q40
  refine cut 133 0 [(2, .int .u8 (more3.toNat : Int)), (3, .mptr 0 0), (4, .mptr 1 0), (7, .sl (v25.1.map (cI .i64))), (9, .int .i64 0), (62, .sl (x39.Code.map Api.Instr.c)), (63, .int .i64 (x39.Code.length : Int)), (64, .int .i64 0)] [(Api.Program.c p1), [.int .i64 n2]] ?_ ?_
  · refine st ?_
    simp [q41, q42]
  refine awp_block ?_
  obtain ⟨o46, l47, h⟩ := bs h
  refine awp_inv (fun p : Nat × Int × Nat => mkS 133 0 [(2, .int .u8 (more3.toNat : Int)), (3, .mptr 0 0), (4, .mptr 1 0), (7, .sl (v25.1.map (cI .i64))), (9, .int .i64 p.2.1), (62, .sl (x39.Code.map Api.Instr.c)), (63, .int .i64 (x39.Code.length : Int)), (64, .int .i64 ((p.2.2 : Nat) : Int))] [(Api.Program.c p1), [.int .i64 n2]]) (fun p => M.law48_VerifyDepths_l1 v25 x39 p.1 p.2.1 p.2.2 = some o46 ∧ 0 ≤ p.2.1) (fun p => p.1) (fuel, 0, 0) ⟨l47, by (try dsimp only); omega⟩ (le_mkS (by simp)) ?_
  rintro ⟨k49, most43, i44⟩ ⟨l47, c48⟩
  try dsimp only at l47 c48 ⊢
  cases k49 with
  | zero =>
    rw [M.law48_VerifyDepths_l1] at l47; cases l47
  | succ k50 =>
    rw [M.law48_VerifyDepths_l1] at l47
    refine cut 133 0 [(2, .int .u8 (more3.toNat : Int)), (3, .mptr 0 0), (4, .mptr 1 0), (7, .sl (v25.1.map (cI .i64))), (9, .int .i64 most43), (62, .sl (x39.Code.map Api.Instr.c)), (63, .int .i64 (x39.Code.length : Int)), (64, .int .i64 ((i44 : Nat) : Int)), (65, .bool (ltI ((i44 : Nat) : Int) (x39.Code.length : Int)))] [(Api.Program.c p1), [.int .i64 n2]] ?_ ?_
    · refine st ?_
      simp
    refine awp_seq ?_
    rcases sp l47 with ⟨g51, l47⟩ | ⟨g51, l47⟩
    · have c52 := ltT g51
      refine condT rfl g51 ?_
      refine factL 62 rfl fun f53 => ?_
      rw [List.length_map] at f53
      refine awp_skip ?_
      refine seq_eq ?_
      refine awp_seq ?_
      refine awp_block ?_
      obtain ⟨x54, q55, l47⟩ := bs l47
      refine cut 133 0 [(2, .int .u8 (more3.toNat : Int)), (3, .mptr 0 0), (4, .mptr 1 0), (7, .sl (v25.1.map (cI .i64))), (9, .int .i64 most43), (10, .int .i64 ((i44 : Nat) : Int)), (11, .mptr 2 0), (62, .sl (x39.Code.map Api.Instr.c)), (63, .int .i64 (x39.Code.length : Int)), (64, .int .i64 ((i44 : Nat) : Int))] [(Api.Program.c p1), [.int .i64 n2], (Api.Instr.c x54)] ?_ ?_
      · refine st ?_
        simp [q55]
      refine awp_seq ?_
      obtain ⟨x56, q57, l47⟩ := bs l47
      refine cut 133 0 [(2, .int .u8 (more3.toNat : Int)), (3, .mptr 0 0), (4, .mptr 1 0), (7, .sl (v25.1.map (cI .i64))), (9, .int .i64 most43), (10, .int .i64 ((i44 : Nat) : Int)), (11, .mptr 2 0), (62, .sl (x39.Code.map Api.Instr.c)), (63, .int .i64 (x39.Code.length : Int)), (64, .int .i64 ((i44 : Nat) : Int)), (73, .bool (ltI x56 0))] [(Api.Program.c p1), [.int .i64 n2], (Api.Instr.c x54)] ?_ ?_
      · refine st ?_
        simp [q57]
      rcases sp l47 with ⟨g58, l47⟩ | ⟨g58, l47⟩
      · have c59 := ltT g58
        refine condT rfl g58 ?_
        refine awp_exit ?_
        refine exit_seq ?_
        refine exit_blk ?_
        refine seq_eq ?_
        have q60 : Rng .i64 (((i44 : Nat) : Int) + 1) := by simp only [Rng, inR]; omega
        try simp at q60
        refine last 133 0 [(2, .int .u8 (more3.toNat : Int)), (3, .mptr 0 0), (4, .mptr 1 0), (7, .sl (v25.1.map (cI .i64))), (9, .int .i64 most43), (62, .sl (x39.Code.map Api.Instr.c)), (63, .int .i64 (x39.Code.length : Int)), (64, .int .i64 ((i44 + 1 : Nat) : Int))] [(Api.Program.c p1), [.int .i64 n2]] ?_ fun zz hs => ?_
        · refine st ?_
          simp [q60]
        exact ⟨(k50, most43, i44 + 1), hs, ⟨l47, by (try dsimp only); (try unfold maxI); (first | omega | (split <;> omega))⟩, by simp⟩
      have c61 := ltF g58
      refine condF rfl g58 ?_
      refine awp_skip ?_
      refine seq_eq ?_
      obtain ⟨v62, q63, l47⟩ := bs l47
      refine cut 133 0 [(2, .int .u8 (more3.toNat : Int)), (3, .mptr 0 0), (4, .mptr 1 0), (7, .sl (v25.1.map (cI .i64))), (9, .int .i64 most43), (10, .int .i64 ((i44 : Nat) : Int)), (12, .int .i64 v62.1), (13, .int .i64 v62.2.1), (14, .int .i64 v62.2.2), (62, .sl (x39.Code.map Api.Instr.c)), (63, .int .i64 (x39.Code.length : Int)), (64, .int .i64 ((i44 : Nat) : Int))] [(Api.Program.c p1), [.int .i64 n2], (Api.Instr.c x54)] ?_ ?_
      · refine st ?_
        simp
        have r80 := bytecode_Effect_ok x54 v62 q63
        try simp [] at r80
        refine callPure r80 (by simp) rfl ?_
        simp
      refine awp_seq ?_
      refine cut 133 0 [(2, .int .u8 (more3.toNat : Int)), (3, .mptr 0 0), (4, .mptr 1 0), (7, .sl (v25.1.map (cI .i64))), (9, .int .i64 most43), (10, .int .i64 ((i44 : Nat) : Int)), (12, .int .i64 v62.1), (13, .int .i64 v62.2.1), (62, .sl (x39.Code.map Api.Instr.c)), (63, .int .i64 (x39.Code.length : Int)), (64, .int .i64 ((i44 : Nat) : Int)), (81, .bool (!(eqI v62.2.2 0)))] [(Api.Program.c p1), [.int .i64 n2], (Api.Instr.c x54)] ?_ ?_
      · refine st ?_
        simp
      rcases sp l47 with ⟨g64, l47⟩ | ⟨g64, l47⟩
      · have g65 := notT g64
        have c66 := eqF g65
        refine condT rfl g64 ?_
        refine cut 133 0 [(6, .bool false)] [(Api.Program.c p1), [.int .i64 n2], (Api.Instr.c x54)] ?_ ?_
        · refine st ?_
          simp
        refine awp_ret ?_
        refine ret_seq ?_
        refine ret_blk ?_
        refine ret_seq ?_
        replace h := retL l47 h
        refine ret_seq ?_
        refine ret_blk ?_
        refine ret_seq ?_
        obtain rfl := oi h
        simp
      have g67 := notF g64
      have c68 := eqT g67
      refine condF rfl g64 ?_
      refine awp_skip ?_
      refine seq_eq ?_
      obtain ⟨n69, q70, l47⟩ := bs l47
      obtain ⟨q71, q72⟩ := chk_ok q70
      try simp at q71
      try simp at q72
      have c73 := q71; simp only [Rng, inR] at c73
      obtain ⟨n74, q75, l47⟩ := bs l47
      obtain ⟨q76, q77⟩ := chk_ok q75
      try simp at q76
      try simp at q77
      have c78 := q76; simp only [Rng, inR] at c78
      refine last 133 0 [(2, .int .u8 (more3.toNat : Int)), (3, .mptr 0 0), (4, .mptr 1 0), (7, .sl (v25.1.map (cI .i64))), (9, .int .i64 (maxI most43 n74)), (62, .sl (x39.Code.map Api.Instr.c)), (63, .int .i64 (x39.Code.length : Int)), (64, .int .i64 ((i44 : Nat) : Int))] [(Api.Program.c p1), [.int .i64 n2], (Api.Instr.c x54)] ?_ fun zz hs => ?_
      · refine st ?_
        simp [q57, q71, q72, q76, q77]
      refine blk_n ?_
      refine seq_le ?_ hs
      have q79 : Rng .i64 (((i44 : Nat) : Int) + 1) := by simp only [Rng, inR]; omega
      try simp at q79
      refine last 133 0 [(2, .int .u8 (more3.toNat : Int)), (3, .mptr 0 0), (4, .mptr 1 0), (7, .sl (v25.1.map (cI .i64))), (9, .int .i64 (maxI most43 n74)), (62, .sl (x39.Code.map Api.Instr.c)), (63, .int .i64 (x39.Code.length : Int)), (64, .int .i64 ((i44 + 1 : Nat) : Int))] [(Api.Program.c p1), [.int .i64 n2]] ?_ fun zz hs => ?_
      · refine st ?_
        simp [q79]
      exact ⟨(k50, maxI most43 n74, i44 + 1), hs, ⟨l47, by (try dsimp only); (try unfold maxI); (first | omega | (split <;> omega))⟩, by simp⟩
    have c81 := ltF g51
    refine condF rfl g51 ?_
    refine factL 62 rfl fun f82 => ?_
    rw [List.length_map] at f82
    refine awp_exit ?_
    refine exit_seq ?_
    rcases o46 with o46 | o45
    · cases l47
    have q83 := Sum.inr.inj (Option.some.inj l47)
    replace h := elimR h
    have q83 := q83.symm
    refine exit_seq ?_
    refine exit_blk ?_
    refine seq_le (t := mkS 133 0 [(2, .int .u8 (more3.toNat : Int)), (3, .mptr 0 0), (4, .mptr 1 0), (9, .int .i64 o45)] [(Api.Program.c p1), [.int .i64 n2]]) ?_ (le_mkS (by simp [q83]))
    refine cut 133 0 [(2, .int .u8 (more3.toNat : Int)), (3, .mptr 0 0), (4, .mptr 1 0), (9, .int .i64 o45), (15, .fn (.func 21) [] [.mptr 0 0, .mptr 1 0])] [(Api.Program.c p1), [.int .i64 n2]] ?_ ?_
    · refine st ?_
      simp
    refine awp_seq ?_
    obtain ⟨b97, q98, h⟩ := bs h
    refine cut 133 0 [(9, .int .i64 o45), (15, .fn (.func 21) [] [.mptr 0 0, .mptr 1 0]), (117, .bool b97)] [(Api.Program.c p1), [.int .i64 n2]] ?_ ?_
    · have q84 : Rng .i64 ((more3.toNat : Int)) := by have := (more3).toNat_lt; simp only [Rng, inR]; omega
      obtain ⟨n85, q86, q98⟩ := bs q98
      obtain ⟨q87, q88⟩ := chk_ok q86
      try simp at q87
      try simp at q88
      have c89 := q87; simp only [Rng, inR] at c89
      rcases sp q98 with ⟨g90, q98⟩ | ⟨g90, q98⟩
      · have c91 := leT g90
        have q92 : Rng .i64 ((more3.toNat : Int)) := by have := (more3).toNat_lt; simp only [Rng, inR]; omega
        have c93 := q87; simp only [Rng, inR] at c93
        obtain ⟨v94, q95, q98⟩ := bs q98
        obtain rfl := oi q98
        refine st ?_
        simp [q41, q42, q84, q87, q88, g90, q92]
        have r121 := (law48_VerifyDepths_1_ok fuel n85 p1 n2 v94 q95).frame [0, 1] [[.sl (p1.Funs.map Api.Fun.c), .sl (p1.Texts.map cS), .int .i64 p1.Main], [.int .i64 n2]] (by simp)
        try simp [q41, q42, q84, q87, q88, g90, q92] at r121
        refine callRaw r121 (by simp [q41, q42, q84, q87, q88, g90, q92]) rfl ?_
        simp [q41, q42, q84, q87, q88, g90, q92]
      have c96 := leF g90
      obtain rfl := oi q98
      refine st ?_
      simp [q41, q42, q84, q87, q88, g90]
    rcases sp h with ⟨g99, h⟩ | ⟨g99, h⟩
    · refine condT rfl g99 ?_
      refine cut 133 0 [(6, .bool false)] [(Api.Program.c p1), [.int .i64 n2]] ?_ ?_
      · refine st ?_
        simp
      refine awp_ret ?_
      refine ret_seq ?_
      obtain rfl := oi h
      simp
    refine condF rfl g99 ?_
    refine awp_skip ?_
    refine seq_eq ?_
    obtain ⟨b115, q116, h⟩ := bs h
    refine cut 133 0 [(6, .bool b115)] [(Api.Program.c p1), [.int .i64 n2]] ?_ ?_
    · obtain ⟨v100, q101, q116⟩ := bs q116
      rcases sp q116 with ⟨g102, q116⟩ | ⟨g102, q116⟩
      · have c103 := eqT g102
        rcases sp q116 with ⟨g104, q116⟩ | ⟨g104, q116⟩
        · have c105 := eqT g104
          obtain rfl := oi q116
          refine st ?_
          simp [g102, g104]
          have r117 := (law48_VerifyDepths_1_ok fuel o45 p1 n2 v100 q101).frame [0, 1] [[.sl (p1.Funs.map Api.Fun.c), .sl (p1.Texts.map cS), .int .i64 p1.Main], [.int .i64 n2]] (by simp)
          try simp [g102, g104] at r117
          refine callRaw r117 (by simp [g102, g104]) rfl ?_
          simp [g102, g104]
        have c106 := eqF g104
        obtain ⟨n107, q108, q116⟩ := bs q116
        obtain ⟨q109, q110⟩ := chk_ok q108
        try simp at q109
        try simp at q110
        have c111 := q109; simp only [Rng, inR] at c111
        obtain ⟨v112, q113, q116⟩ := bs q116
        obtain rfl := oi q116
        refine st ?_
        simp [g102, g104, q109, q110]
        have r118 := (law48_VerifyDepths_1_ok fuel o45 p1 n2 v100 q101).frame [0, 1] [[.sl (p1.Funs.map Api.Fun.c), .sl (p1.Texts.map cS), .int .i64 p1.Main], [.int .i64 n2]] (by simp)
        try simp [g102, g104, q109, q110] at r118
        refine callRaw r118 (by simp [g102, g104, q109, q110]) rfl ?_
        simp [g102, g104, q109, q110]
        have r119 := (law48_VerifyDepths_1_ok fuel n107 p1 n2 v112 q113).frame [0, 1] [[.sl (p1.Funs.map Api.Fun.c), .sl (p1.Texts.map cS), .int .i64 p1.Main], [.int .i64 n2]] (by simp)
        try simp [g102, g104, q109, q110] at r119
        refine callRaw r119 (by simp [g102, g104, q109, q110]) rfl ?_
        simp [g102, g104, q109, q110]
      have c114 := eqF g102
      obtain rfl := oi q116
      refine st ?_
      simp [g102]
      have r120 := (law48_VerifyDepths_1_ok fuel o45 p1 n2 v100 q101).frame [0, 1] [[.sl (p1.Funs.map Api.Fun.c), .sl (p1.Texts.map cS), .int .i64 p1.Main], [.int .i64 n2]] (by simp)
      try simp [g102] at r120
      refine callRaw r120 (by simp [g102]) rfl ?_
      simp [g102]
    refine awp_ret ?_
    obtain rfl := oi h
    simp
end Go.Proofs.Ythbjlmoaceaeeaa
set_option linter.unusedVariables false
set_option linter.unusedSimpArgs false
set_option maxRecDepth 100000
namespace Go.Proofs.Ythbjlmoaceaeeaa
open Go Go.Abs
theorem obind {α β : Type} (a : α) (f : α → Option β) : (some a).bind f = f a := Eq.trans (Option.bind_some a f) rfl
theorem chk64 {n : Int} (h1 : -9223372036854775808 ≤ n) (h2 : n ≤ 9223372036854775807) : chk .i64 n = some n := by rw [chk, if_pos]; exact ⟨h1, h2⟩
theorem app_some {α : Type} {b : Nat} {x y : List α} (h : 0 < b) (h2 : (x.length + y.length) * b ≤ 140737488355328) : app b x y = some (x ++ y) := by rw [app, if_pos ⟨h, h2⟩]
theorem idx_some {α : Type} {l : List α} {n : Int} {x : α} (h0 : 0 ≤ n) (h : l[n.toNat]? = some x) : idx l n = some x := by rw [idx, if_pos h0, h]
theorem ltI_t {a b : Int} (h : a < b) : ltI a b = true := decide_eq_true h
theorem ltI_f {a b : Int} (h : b ≤ a) : ltI a b = false := decide_eq_false (by omega)
theorem leI_t {a b : Int} (h : a ≤ b) : leI a b = true := decide_eq_true h
theorem leI_f {a b : Int} (h : b < a) : leI a b = false := decide_eq_false (by omega)
theorem eqI_t {a b : Int} (h : a = b) : eqI a b = true := decide_eq_true h
theorem eqI_f {a b : Int} (h : a ≠ b) : eqI a b = false := decide_eq_false h
theorem drop_split {α : Type} {s : List α} {i : Nat} (h : i < s.length) : ∃ x, s[i]? = some x ∧ s.drop i = x :: s.drop (i + 1) ∧ x ∈ s :=
  ⟨s[i], List.getElem?_eq_getElem h, List.drop_eq_getElem_cons h, List.getElem_mem h⟩
theorem idx_loop {α : Type} {s : List α} {P : α → Bool} {Q : α → Option Bool} {g : Nat → Nat → Option (Int ⊕ Unit)}
    (hg : ∀ k i, g (k + 1) i = if ltI ((i : Nat) : Int) (s.length : Int) then (s[i]?).bind fun x => (Q x).bind fun v => if v then some (.inl ((i : Nat) : Int)) else g k (i + 1) else some (.inr ()))
    (hQ : ∀ x ∈ s, Q x = some (P x)) : ∀ n k i, i + n = s.length → n < k → ∃ o, g k i = some o ∧ (((s.drop i).any P = true ∧ ∃ j : Nat, o = .inl (j : Int)) ∨ ((s.drop i).any P = false ∧ o = .inr ()))
  | 0, k, i, hi, hk => by
    obtain ⟨k, rfl⟩ : ∃ g, k = g + 1 := ⟨k - 1, by omega⟩
    rw [hg, ltI_f (by omega), List.drop_eq_nil_of_le (by omega)]
    exact ⟨_, rfl, .inr ⟨rfl, rfl⟩⟩
  | n + 1, k, i, hi, hk => by
    obtain ⟨k, rfl⟩ : ∃ g, k = g + 1 := ⟨k - 1, by omega⟩
    obtain ⟨x, h1, h2, h3⟩ := drop_split (s := s) (i := i) (by omega)
    rw [hg, ltI_t (by omega), if_pos rfl, h1, obind, hQ x h3, obind, h2, List.any_cons]
    cases hp : P x with
    | true => exact ⟨_, rfl, .inl ⟨rfl, i, rfl⟩⟩
    | false =>
      obtain ⟨o, o1, o2⟩ := idx_loop hg hQ n k (i + 1) (by omega) (by omega)
      exact ⟨o, by simpa using o1, by simpa using o2⟩
theorem cf_loop {α : Type} {s : List α} {P : α → Bool} {Q : α → Option Bool} {g : Nat → Nat → Option (Int ⊕ Unit)}
    (hg : ∀ k i, g (k + 1) i = if ltI ((i : Nat) : Int) (s.length : Int) then (s[i]?).bind fun x => (Q x).bind fun v => if v then some (.inl ((i : Nat) : Int)) else g k (i + 1) else some (.inr ()))
    (hQ : ∀ x ∈ s, Q x = some (P x)) {k : Nat} (hk : s.length < k) : (((g k 0).bind fun o => Sum.elim some (fun _ => some (-1)) o).bind fun v => some (leI 0 v)) = some (s.any P) := by
  obtain ⟨o, o1, o2⟩ := idx_loop hg hQ s.length k 0 (by omega) hk
  rw [o1, obind]
  rw [List.drop_zero] at o2
  rcases o2 with ⟨h1, j, rfl⟩ | ⟨h1, rfl⟩
  · rw [h1]; simp only [Sum.elim_inl, obind]; rw [leI_t (by omega)]
  · rw [h1]; rfl
theorem all_loop {α : Type} {s : List α} {P : α → Bool} {Q : Nat → α → Option Bool} {g : Nat → Nat → Option (Bool ⊕ Unit)}
    (hg : ∀ k i, g (k + 1) i = if ltI ((i : Nat) : Int) (s.length : Int) then (s[i]?).bind fun x => (Q i x).bind fun v => if !v then some (.inl false) else g k (i + 1) else some (.inr ()))
    (hQ : ∀ i x, s[i]? = some x → Q i x = some (P x)) : ∀ n k i, i + n = s.length → n < k → g k i = some (if (s.drop i).all P then .inr () else .inl false)
  | 0, k, i, hi, hk => by
    obtain ⟨k, rfl⟩ : ∃ g, k = g + 1 := ⟨k - 1, by omega⟩
    rw [hg, ltI_f (by omega), List.drop_eq_nil_of_le (by omega)]; rfl
  | n + 1, k, i, hi, hk => by
    obtain ⟨k, rfl⟩ : ∃ g, k = g + 1 := ⟨k - 1, by omega⟩
    obtain ⟨x, h1, h2, h3⟩ := drop_split (s := s) (i := i) (by omega)
    rw [hg, ltI_t (by omega), if_pos rfl, h1, obind, hQ i x h1, obind, h2, List.all_cons]
    cases hp : P x with
    | true => simpa using all_loop hg hQ n k (i + 1) (by omega) (by omega)
    | false => rfl
theorem alli_loop {α : Type} {s : List α} {P : Nat → α → Bool} {Q : Nat → α → Option Bool} {g : Nat → Nat → Option (Bool ⊕ Unit)}
    (hg : ∀ k i, g (k + 1) i = if ltI ((i : Nat) : Int) (s.length : Int) then (s[i]?).bind fun x => (Q i x).bind fun v => if !v then some (.inl false) else g k (i + 1) else some (.inr ()))
    (hQ : ∀ i x, s[i]? = some x → Q i x = some (P i x)) : ∀ n k i, i + n = s.length → n < k → g k i = some (if ((s.drop i).zipIdx i).all (fun p => P p.2 p.1) then .inr () else .inl false)
  | 0, k, i, hi, hk => by
    obtain ⟨k, rfl⟩ : ∃ g, k = g + 1 := ⟨k - 1, by omega⟩
    rw [hg, ltI_f (by omega), List.drop_eq_nil_of_le (by omega)]; rfl
  | n + 1, k, i, hi, hk => by
    obtain ⟨k, rfl⟩ : ∃ g, k = g + 1 := ⟨k - 1, by omega⟩
    obtain ⟨x, h1, h2, h3⟩ := drop_split (s := s) (i := i) (by omega)
    rw [hg, ltI_t (by omega), if_pos rfl, h1, obind, hQ i x h1, obind, h2, List.zipIdx_cons, List.all_cons]
    cases hp : P i x with
    | true => simpa only [Bool.not_true, Bool.false_eq_true, if_false, Bool.true_and] using alli_loop hg hQ n k (i + 1) (by omega) (by omega)
    | false => rfl
def okc (c : UInt8) : Bool := c == 10 || (decide (32 ≤ c.toNat) && decide (c.toNat ≤ 126))
theorem wb_M {c : UInt8} {b : List UInt8} (h : b.length + 1 ≤ 140737488355328) : M.strings_Builder_WriteByte c b = some (b ++ [c]) := by
  simp only [M.strings_Builder_WriteByte, M.strings_Builder_copyCheck, obind, app_some (b := 1) (x := b) (y := [c]) (by decide) (by simpa using h)]
theorem ws_M {s b : List UInt8} (h : b.length + s.length ≤ 140737488355328) : M.strings_Builder_WriteString s b = some ((s.length : Int), b ++ s) := by
  simp only [M.strings_Builder_WriteString, M.strings_Builder_copyCheck, obind, app_some (b := 1) (x := b) (y := s) (by decide) (by simpa using h)]
theorem vis_M (c : UInt8) : M.lexer_visible c = some (decide (32 ≤ c.toNat) && decide (c.toNat ≤ 126)) := by
  unfold M.lexer_visible leI
  congr 2
  · exact decide_eq_decide.2 (by omega)
  · exact decide_eq_decide.2 (by omega)
theorem e10 (c : UInt8) : eqI (c.toNat : Int) 10 = (c == 10) := by
  unfold eqI
  rw [Bool.eq_iff_iff]
  simp only [decide_eq_true_eq, beq_iff_eq]
  constructor
  · intro h; apply UInt8.toNat_inj.1; simp; omega
  · rintro rfl; rfl
theorem Quote_loop (s : List UInt8) (hs : s.length ≤ 20000) : ∀ (n i k : Nat) (b : List UInt8), i + n = s.length → n + 1 ≤ k → b.length + 2 * n ≤ 1000000 →
    if (s.drop i).all okc = true then ∃ b', M.lexer_Quote_l1 s k b i = some (.inr b') ∧ b'.length ≤ 1000000 else M.lexer_Quote_l1 s k b i = some (.inl ([], 3)) := by
  intro n
  induction n with
  | zero =>
    intro i k b hi hk hb
    obtain ⟨g, rfl⟩ : ∃ g, k = g + 1 := ⟨k - 1, by omega⟩
    rw [M.lexer_Quote_l1, ltI_f (by omega), List.drop_eq_nil_of_le (by omega)]
    exact ⟨b, rfl, by omega⟩
  | succ n ih =>
    intro i k b hi hk hb
    obtain ⟨g, rfl⟩ : ∃ g, k = g + 1 := ⟨k - 1, by omega⟩
    obtain ⟨c, hx, h2, _⟩ := drop_split (s := s) (i := i) (by omega)
    rw [M.lexer_Quote_l1, ltI_t (by omega), if_pos rfl, hx, h2, List.all_cons]
    simp only [obind, vis_M]
    by_cases c10 : (c == 10) = true
    · have ho : okc c = true := by unfold okc; rw [c10]; rfl
      rw [e10, if_pos c10, ws_M (by simp; omega)]
      simp only [obind, ho, Bool.true_and]
      exact ih (i + 1) g _ (by omega) (by omega) (by first | omega | (simp; omega))
    · rw [e10, if_neg c10]
      have c10 : (c == 10) = false := by simpa using c10
      cases hv : (decide (32 ≤ c.toNat) && decide (c.toNat ≤ 126))
      · have ho : okc c = false := by unfold okc; rw [hv, c10]; rfl
        rw [ho]; rfl
      · have ho : okc c = true := by unfold okc; rw [hv]; simp
        simp only [Bool.not_true, Bool.false_eq_true, if_false, ho, Bool.true_and]
        cases h34 : (eqI (c.toNat : Int) 34 || eqI (c.toNat : Int) 92)
        · simp only [Bool.false_eq_true, if_false]
          rw [wb_M (by omega)]
          simp only [obind]
          exact ih (i + 1) g (b ++ [c]) (by omega) (by omega) (by simp only [List.length_append, List.length_cons, List.length_nil]; omega)
        · simp only [if_true]
          rw [wb_M (by omega)]
          simp only [obind]
          rw [wb_M (by simp; omega)]
          simp only [obind]
          exact ih (i + 1) g (b ++ [92] ++ [c]) (by omega) (by omega) (by simp only [List.length_append, List.length_cons, List.length_nil]; omega)
def txt (s : List UInt8) : Bool := decide (s.length ≤ 16384) && s.all okc
theorem quoted_M (s : List UInt8) {fuel : Nat} (hf : 20000 ≤ fuel) : M.bytecode_quoted fuel s = some (txt s) := by
  rw [M.bytecode_quoted, M.lexer_Quote]
  by_cases h : s.length ≤ 16384
  · have hl := Quote_loop s (by omega) s.length 0 fuel [34] (by simp) (by omega) (by simp; omega)
    rw [List.drop_zero] at hl
    rw [ltI_f (by omega), if_neg (by simp), wb_M (by simp)]
    unfold txt
    simp only [obind, List.nil_append, decide_eq_true h, Bool.true_and]
    split at hl
    · rename_i ha
      obtain ⟨b', h1, h2⟩ := hl
      rw [h1, ha]
      simp only [obind, Sum.elim_inr]
      rw [wb_M (by omega)]
      rfl
    · rename_i ha
      rw [hl]
      simp only [obind, Sum.elim_inl, Bool.not_eq_true] at ha ⊢
      rw [ha]; rfl
  · rw [ltI_t (by omega), if_pos rfl]
    unfold txt
    rw [decide_eq_false h]; rfl
theorem Plain_M (s : List UInt8) {fuel : Nat} (hf : s.length < fuel) : M.ref02_Plain fuel s = some (s.all okc) := by
  rw [M.ref02_Plain, all_loop (s := s) (g := M.ref02_Plain_l1 s) (P := okc) (Q := fun _ c => ((if ltI (c.toNat : Int) 32 then some (!(eqI (c.toNat : Int) 10)) else if ltI 126 (c.toNat : Int) then some (!(eqI (c.toNat : Int) 10)) else some false : Option Bool).bind fun b => some (!b)))
    (fun k i => ?_) (fun i c _ => ?_) s.length fuel 0 (by omega) hf]
  · rw [List.drop_zero]
    cases s.all okc <;> rfl
  · rw [M.ref02_Plain_l1]
    cases hlt : ltI ((i : Nat) : Int) (s.length : Int) with
    | false => rfl
    | true =>
      have := ltT hlt
      obtain ⟨c, h1, _⟩ := drop_split (s := s) (i := i) (by omega)
      rw [if_pos rfl, if_pos rfl, h1, obind, obind]
      cases h : (if ltI (c.toNat : Int) 32 then some (!(eqI (c.toNat : Int) 10)) else if ltI 126 (c.toNat : Int) then some (!(eqI (c.toNat : Int) 10)) else some false : Option Bool) with
      | none => simp only [Option.bind_none]
      | some b => cases b <;> rfl
  · unfold okc
    rw [e10]
    by_cases h1 : c.toNat < 32
    · rw [ltI_t (by omega), if_pos rfl, obind, decide_eq_false (show ¬ 32 ≤ c.toNat by omega)]; simp
    · rw [ltI_f (by omega), if_neg (by simp), decide_eq_true (show 32 ≤ c.toNat by omega)]
      by_cases h2 : 126 < c.toNat
      · rw [ltI_t (by omega), if_pos rfl, obind, decide_eq_false (show ¬ c.toNat ≤ 126 by omega)]; simp
      · rw [ltI_f (by omega), if_neg (by simp), obind, decide_eq_true (show c.toNat ≤ 126 by omega)]; simp
theorem textual_M (s : List UInt8) {fuel : Nat} (hf : 20000 ≤ fuel) : M.ref46_textual fuel s = some (txt s) := by
  rw [M.ref46_textual]
  unfold txt
  by_cases h : s.length ≤ 16384
  · rw [leI_t (by omega), if_pos rfl, Plain_M s (by omega), decide_eq_true h]
    simp only [obind, Bool.true_and]
  · rw [leI_f (by omega), decide_eq_false h]; rfl
end Go.Proofs.Ythbjlmoaceaeeaa
set_option linter.unusedVariables false
set_option linter.unusedSimpArgs false
set_option maxRecDepth 100000
set_option maxHeartbeats 1000000
namespace Go.Proofs.Ythbjlmoaceaeeaa
open Go Go.Abs
def inn (n lo hi : Int) : Bool := (leI lo n) && (leI n hi)
theorem within_M (n lo hi : Int) : M.bytecode_within n lo hi = some (inn n lo hi) := rfl
theorem in_M (n lo hi : Int) : M.ref46_in n lo hi = some (inn n lo hi) := rfl
theorem inn_iff {n lo hi : Int} : inn n lo hi = true ↔ lo ≤ n ∧ n ≤ hi := by
  unfold inn leI; simp
def eff (i : Api.Instr) : Int × Int × Int :=
  if i.Op = 1 ∨ i.Op = 2 ∨ i.Op = 3 ∨ i.Op = 5 ∨ i.Op = 6 then (0, 1, 0)
  else if i.Op = 4 ∨ i.Op = 9 ∨ i.Op = 13 then (1, 0, 0)
  else if i.Op = 7 then (if inn i.B 0 1000 then (i.B, 1, 0) else (0, 0, 2))
  else if i.Op = 10 then (if inn i.A 0 1000 then (i.A, 1, 0) else (0, 0, 2))
  else if i.Op = 8 then (2, 1, 0)
  else if i.Op = 11 ∨ i.Op = 12 then (1, 1, 0)
  else if i.Op = 14 ∨ i.Op = 16 then (0, 0, 0)
  else if i.Op = 15 then (if inn i.A 1 14 then ((if i.A = 6 ∨ i.A = 11 ∨ i.A = 13 ∨ i.A = 14 then 1 else 2), 1, 0) else (0, 0, 2))
  else (0, 0, 2)
theorem opCases (op : Int) : (op < 1 ∨ 16 < op) ∨ op = 1 ∨ op = 2 ∨ op = 3 ∨ op = 4 ∨ op = 5 ∨ op = 6 ∨ op = 7 ∨ op = 8 ∨ op = 9 ∨ op = 10 ∨ op = 11 ∨ op = 12 ∨ op = 13 ∨ op = 14 ∨ op = 15 ∨ op = 16 := by omega
theorem opOut {op : Int} (h : op < 1 ∨ 16 < op) (k : Int) (h1 : 1 ≤ k) (h2 : k ≤ 16) : eqI op k = false ∧ op ≠ k := ⟨eqI_f (by omega), by omega⟩
theorem effect_M (i : Api.Instr) : M.bytecode_Effect i = some (eff i) := by
  obtain ⟨op, a, b⟩ := i
  rcases opCases op with h | h | h | h | h | h | h | h | h | h | h | h | h | h | h | h | h
  · have hk := fun k h1 h2 => opOut h k h1 h2
    simp only [M.bytecode_Effect, eff]
    simp [(hk 1 (by omega) (by omega)), (hk 2 (by omega) (by omega)), (hk 3 (by omega) (by omega)), (hk 4 (by omega) (by omega)), (hk 5 (by omega) (by omega)), (hk 6 (by omega) (by omega)), (hk 7 (by omega) (by omega)), (hk 8 (by omega) (by omega)), (hk 9 (by omega) (by omega)), (hk 10 (by omega) (by omega)), (hk 11 (by omega) (by omega)), (hk 12 (by omega) (by omega)), (hk 13 (by omega) (by omega)), (hk 14 (by omega) (by omega)), (hk 15 (by omega) (by omega)), (hk 16 (by omega) (by omega))]
  all_goals subst h
  all_goals simp only [M.bytecode_Effect, eff, within_M, obind]
  all_goals try rfl
  · cases h : inn b 0 1000 <;> simp [eqI]
  · cases h : inn a 0 1000 <;> simp [eqI]
  · cases h : inn a 1 14
    · simp [eqI]
    · simp only [eqI, M.bytecode_taken]
      by_cases h1 : a = 6
      · simp [h1]
      by_cases h2 : a = 11
      · simp [h2]
      by_cases h3 : a = 13
      · simp [h3]
      by_cases h4 : a = 14
      · simp [h4]
      simp [h1, h2, h3, h4]
theorem reffect_M (i : Api.Instr) : M.ref46_Effect i = some (eff i) := by
  obtain ⟨op, a, b⟩ := i
  rcases opCases op with h | h | h | h | h | h | h | h | h | h | h | h | h | h | h | h | h
  · have hk := fun k h1 h2 => opOut h k h1 h2
    simp only [M.ref46_Effect, eff]
    simp [(hk 1 (by omega) (by omega)), (hk 2 (by omega) (by omega)), (hk 3 (by omega) (by omega)), (hk 4 (by omega) (by omega)), (hk 5 (by omega) (by omega)), (hk 6 (by omega) (by omega)), (hk 7 (by omega) (by omega)), (hk 8 (by omega) (by omega)), (hk 9 (by omega) (by omega)), (hk 10 (by omega) (by omega)), (hk 11 (by omega) (by omega)), (hk 12 (by omega) (by omega)), (hk 13 (by omega) (by omega)), (hk 14 (by omega) (by omega)), (hk 15 (by omega) (by omega)), (hk 16 (by omega) (by omega))]
  all_goals subst h
  all_goals simp only [M.ref46_Effect, eff, in_M, obind]
  all_goals try rfl
  · cases h : inn b 0 1000 <;> simp [eqI]
  · cases h : inn a 0 1000 <;> simp [eqI]
  · have key : M.ref46_Arity a = some (if inn a 1 14 then (if a = 6 ∨ a = 11 ∨ a = 13 ∨ a = 14 then 1 else 2) else 0) := by
      unfold M.ref46_Arity
      by_cases h1 : a = 6
      · subst h1; rfl
      by_cases h2 : a = 11
      · subst h2; rfl
      by_cases h3 : a = 13
      · subst h3; rfl
      by_cases h4 : a = 14
      · subst h4; rfl
      rw [eqI_f h1, eqI_f h2, eqI_f h3, eqI_f h4]
      simp only [Bool.false_eq_true, if_false]
      by_cases h5 : 1 ≤ a ∧ a ≤ 14
      · rw [ltI_f h5.1, ltI_f h5.2, inn_iff.2 h5]; simp [h1, h2, h3, h4]
      · have : inn a 1 14 = false := by cases hi : inn a 1 14 with | false => rfl | true => exact absurd (inn_iff.1 hi) h5
        rw [this]
        by_cases h6 : a < 1
        · rw [ltI_t h6]; rfl
        · rw [ltI_f (by omega), ltI_t (show (14 : Int) < a by omega)]; rfl
    rw [key]
    cases h : inn a 1 14
    · simp [eqI, obind]
    · simp only [if_true, obind]
      by_cases h1 : a = 6 ∨ a = 11 ∨ a = 13 ∨ a = 14
      · simp only [h1, if_true]; rfl
      · simp only [h1, if_false]; rfl
theorem eff_ok {i : Api.Instr} (h : (eff i).2.2 = 0) : 0 ≤ (eff i).1 ∧ (eff i).1 ≤ 1000 ∧ 0 ≤ (eff i).2.1 ∧ (eff i).2.1 ≤ 1 := by
  unfold eff at h ⊢
  repeat' (first | split at h | split)
  all_goals simp_all [inn_iff]
  all_goals omega
end Go.Proofs.Ythbjlmoaceaeeaa
set_option linter.unusedVariables false
set_option linter.unusedSimpArgs false
set_option maxRecDepth 100000
set_option maxHeartbeats 1000000
namespace Go.Proofs.Ythbjlmoaceaeeaa
open Go Go.Abs
def upL (a : Int) : Nat → List Int
  | 0 => []
  | n + 1 => a :: upL (a + 1) n
theorem upL_len (a : Int) : ∀ n, (upL a n).length = n := by
  intro n
  induction n generalizing a with
  | zero => rfl
  | succ n ih => simp [upL, ih]
theorem upL_snoc (a : Int) : ∀ n, upL a (n + 1) = upL a n ++ [a + n] := by
  intro n
  induction n generalizing a with
  | zero => simp [upL]
  | succ n ih => rw [upL, ih, upL]; simp; omega
theorem upL_get (a : Int) : ∀ n (x : Int), x ∈ upL a n ↔ a ≤ x ∧ x < a + n := by
  intro n
  induction n generalizing a with
  | zero => intro x; simp only [upL, List.not_mem_nil, false_iff]; omega
  | succ n ih => intro x; simp only [upL, List.mem_cons, ih]; omega
def goL (at1 : Nat) (x : Api.Instr) : Option (List Int) :=
  if x.Op = 14 then some [x.A]
  else if x.Op = 13 then (if inn x.B 1 1000 then some (upL (at1 + 1) x.B.toNat) else none)
  else some [(at1 : Int) + 1]
def inL (f : Api.Fun) (l : List Int) : Bool := l.all fun y => inn y 0 ((f.Code.length : Int) - 1)
def tgt (f : Api.Fun) (at1 : Nat) (x : Api.Instr) : List Int × Int :=
  if x.Op < 1 ∨ 16 < x.Op then ([], 2)
  else if x.Op = 9 ∨ x.Op = 16 then ([], 0)
  else match goL at1 x with
    | none => ([], 24)
    | some l => if inL f l then (l, 0) else ([], 24)
theorem any_not {α : Type} (l : List α) (P : α → Bool) : (l.any fun y => !P y) = !l.all P := by
  induction l with
  | nil => rfl
  | cons a l ih => rw [List.any_cons, List.all_cons, ih]; cases P a <;> rfl
theorem cfT {f : Api.Fun} (hn : f.Code.length ≤ 16384) (l : List Int) {fuel : Nat} (hf : l.length < fuel) : M.slices_ContainsFunc_int_Targets_1 fuel l f = some (!inL f l) := by
  rw [M.slices_ContainsFunc_int_Targets_1, M.slices_IndexFunc_int_Targets_1]
  have := cf_loop (s := l) (P := fun y => !inn y 0 ((f.Code.length : Int) - 1)) (Q := fun x => M.bytecode_Targets_1 x f) (g := M.slices_IndexFunc_int_Targets_1_l1 l f) (fun k i => by rw [M.slices_IndexFunc_int_Targets_1_l1])
    (fun x _ => by rw [M.bytecode_Targets_1, chk64 (by omega) (by omega)]; rfl) hf
  rw [this]
  unfold inL
  congr 1
  exact any_not l _
theorem swLoop (at1 : Nat) (x : Api.Instr) (ha : at1 ≤ 16384) (hb : x.B ≤ 1000) : ∀ (n k : Nat) (i : Int) (out : List Int), 0 ≤ i → i + n = x.B → n < k → out.length + n ≤ 2000 →
    M.bytecode_Targets_l1 (at1 : Int) x k out i = some (out ++ upL ((at1 : Int) + 1 + i) n)
  | 0, k, i, out, h0, hi, hk, ho => by
    obtain ⟨k, rfl⟩ : ∃ g, k = g + 1 := ⟨k - 1, by omega⟩
    rw [M.bytecode_Targets_l1, ltI_f (by omega)]; simp [upL]
  | n + 1, k, i, out, h0, hi, hk, ho => by
    obtain ⟨k, rfl⟩ : ∃ g, k = g + 1 := ⟨k - 1, by omega⟩
    rw [M.bytecode_Targets_l1, ltI_t (by omega), if_pos rfl, chk64 (by omega) (by omega), obind, chk64 (by omega) (by omega), obind, app_some (by decide) (by simp; omega), obind, chk64 (by omega) (by omega), obind,
      swLoop at1 x ha hb n k (i + 1) _ (by omega) (by omega) (by omega) (by simp; omega), upL]
    rw [List.append_assoc]
    simp only [List.cons_append, List.nil_append]
    rw [show (at1 : Int) + 1 + (i + 1) = (at1 : Int) + 1 + i + 1 by omega]
theorem rswLoop (at1 : Nat) (x : Api.Instr) (ha : at1 ≤ 16384) (hb : x.B ≤ 1000) : ∀ (n k : Nat) (i : Int) (out : List Int), 0 ≤ i → i + n = x.B + 1 → n < k → out.length + n ≤ 2000 →
    M.ref46_Targets_l4 (at1 : Int) x k out i = some (out ++ upL ((at1 : Int) + i) n)
  | 0, k, i, out, h0, hi, hk, ho => by
    obtain ⟨k, rfl⟩ : ∃ g, k = g + 1 := ⟨k - 1, by omega⟩
    rw [M.ref46_Targets_l4, leI_f (by omega)]; simp [upL]
  | n + 1, k, i, out, h0, hi, hk, ho => by
    obtain ⟨k, rfl⟩ : ∃ g, k = g + 1 := ⟨k - 1, by omega⟩
    rw [M.ref46_Targets_l4, leI_t (by omega), if_pos rfl, chk64 (by omega) (by omega), obind, app_some (by decide) (by simp; omega), obind, chk64 (by omega) (by omega), obind,
      rswLoop at1 x ha hb n k (i + 1) _ (by omega) (by omega) (by omega) (by simp; omega), upL]
    rw [List.append_assoc]
    simp only [List.cons_append, List.nil_append]
    rw [show (at1 : Int) + (i + 1) = (at1 : Int) + i + 1 by omega]
theorem inLoop {f : Api.Fun} (hn : f.Code.length ≤ 16384) (l : List Int) {g : Nat → Nat → Option (((List Int) × Int) ⊕ Unit)}
    (hg : ∀ k i, g (k + 1) i = if ltI ((i : Nat) : Int) (l.length : Int) then (l[i]?).bind fun x => (chk .i64 ((f.Code.length : Int) - 1)).bind fun n => (M.ref46_in x 0 n).bind fun v => if !v then some (.inl (([] : List Int), 24)) else g k (i + 1) else some (.inr ())) :
    ∀ n k i, i + n = l.length → n < k → g k i = some (if inL f (l.drop i) then .inr () else .inl ([], 24))
  | 0, k, i, hi, hk => by
    obtain ⟨k, rfl⟩ : ∃ g, k = g + 1 := ⟨k - 1, by omega⟩
    rw [hg, ltI_f (by omega), List.drop_eq_nil_of_le (by omega)]; rfl
  | n + 1, k, i, hi, hk => by
    obtain ⟨k, rfl⟩ : ∃ g, k = g + 1 := ⟨k - 1, by omega⟩
    obtain ⟨x, h1, h2, h3⟩ := drop_split (s := l) (i := i) (by omega)
    have ih := inLoop hn l hg n k (i + 1) (by omega) (by omega)
    rw [hg, ltI_t (by omega), if_pos rfl, h1, obind, chk64 (by omega) (by omega), obind, in_M, obind, h2]
    unfold inL at ih ⊢
    rw [List.all_cons]
    cases hp : inn x 0 ((f.Code.length : Int) - 1) with
    | true => rw [ih]; simp
    | false => rfl
theorem known_M (op : Int) : M.bytecode_known op = some (inn op 1 16) := rfl
theorem word_M (op : Int) : ∃ w, M.ref46_Word op = some w ∧ eqS w [] = !inn op 1 16 := by
  rcases opCases op with h | h | h | h | h | h | h | h | h | h | h | h | h | h | h | h | h
  · have : inn op 1 16 = false := by cases hi : inn op 1 16 with | false => rfl | true => have := inn_iff.1 hi; omega
    rw [this, M.ref46_Word, obind]
    by_cases h1 : op < 1
    · rw [ltI_t h1]; exact ⟨_, rfl, rfl⟩
    · rw [ltI_f (by omega), leI_t (by simp; omega)]; exact ⟨_, rfl, rfl⟩
  all_goals subst h; exact ⟨_, rfl, rfl⟩
theorem targets_M {f : Api.Fun} (hn : f.Code.length ≤ 16384) {at1 : Nat} {x : Api.Instr} (hx : f.Code[at1]? = some x) {fuel : Nat} (hf : 20000 ≤ fuel) : M.bytecode_Targets fuel f (at1 : Int) = some (tgt f at1 x) := by
  have hlt := (List.getElem?_eq_some_iff.1 hx).1
  have hi : idx f.Code (at1 : Int) = some x := idx_some (by omega) (by simpa using hx)
  rw [M.bytecode_Targets, ltI_f (show (0 : Int) ≤ (at1 : Int) by omega), leI_f (by omega)]
  simp only [Bool.false_eq_true, if_false, hi, obind, known_M]
  unfold tgt
  cases hk : inn x.Op 1 16 with
  | false =>
    have : x.Op < 1 ∨ 16 < x.Op := by
      apply Decidable.byContradiction; intro h
      have : inn x.Op 1 16 = true := inn_iff.2 ⟨by omega, by omega⟩
      rw [this] at hk; cases hk
    rw [if_pos this]; rfl
  | true =>
    have hk := inn_iff.1 hk
    rw [if_neg (show ¬ (x.Op < 1 ∨ 16 < x.Op) by omega)]
    simp only [Bool.not_true, Bool.false_eq_true, if_false]
    by_cases h9 : x.Op = 9
    · rw [eqI_t h9, if_pos rfl, if_pos (.inl h9)]
    by_cases h16 : x.Op = 16
    · rw [eqI_f h9, eqI_t h16]; simp only [Bool.false_eq_true, if_false, if_true]; rw [if_pos (Or.inr h16)]
    rw [eqI_f h9, eqI_f h16, if_neg (show ¬ (x.Op = 9 ∨ x.Op = 16) by omega)]
    simp only [Bool.false_eq_true, if_false]
    unfold goL
    by_cases h14 : x.Op = 14
    · rw [eqI_t h14, if_pos rfl, cfT hn _ (by simp; omega), obind, if_pos h14]
      cases h : inL f [x.A] <;> simp [h]
    rw [eqI_f h14, if_neg h14]
    simp only [Bool.false_eq_true, if_false]
    by_cases h13 : x.Op = 13
    · rw [eqI_t h13, if_pos rfl, within_M, obind, if_pos h13]
      cases hb : inn x.B 1 1000 with
      | false => rfl
      | true =>
        have hb' := inn_iff.1 hb
        simp only [Bool.not_true, Bool.false_eq_true, if_false, if_true]
        rw [swLoop at1 x (by omega) hb'.2 x.B.toNat fuel 0 [] (by omega) (by omega) (by omega) (by simp; omega), obind, List.nil_append, Int.add_zero, cfT hn _ (by rw [upL_len]; omega), obind]
        cases h : inL f (upL ((at1 : Int) + 1) x.B.toNat) <;> simp [h]
    rw [eqI_f h13, if_neg h13]
    simp only [Bool.false_eq_true, if_false]
    rw [chk64 (by omega) (by omega), obind, cfT hn _ (by simp; omega), obind]
    cases h : inL f [(at1 : Int) + 1] <;> simp [h]
theorem rtargets_M {f : Api.Fun} (hn : f.Code.length ≤ 16384) {at1 : Nat} {x : Api.Instr} (hx : f.Code[at1]? = some x) {fuel : Nat} (hf : 20000 ≤ fuel) : M.ref46_Targets fuel f (at1 : Int) = some (tgt f at1 x) := by
  have hlt := (List.getElem?_eq_some_iff.1 hx).1
  have hi : idx f.Code (at1 : Int) = some x := idx_some (by omega) (by simpa using hx)
  obtain ⟨w, hw1, hw2⟩ := word_M x.Op
  have hin : inn (at1 : Int) 0 ((f.Code.length : Int) - 1) = true := inn_iff.2 ⟨by omega, by omega⟩
  rw [M.ref46_Targets, chk64 (by omega) (by omega), obind, in_M, obind, hin]
  simp only [Bool.not_true, Bool.false_eq_true, if_false, hi, obind, hw1, hw2]
  unfold tgt
  cases hk : inn x.Op 1 16 with
  | false =>
    have : x.Op < 1 ∨ 16 < x.Op := by
      apply Decidable.byContradiction; intro h
      have : inn x.Op 1 16 = true := inn_iff.2 ⟨by omega, by omega⟩
      rw [this] at hk; cases hk
    rw [if_pos this]; rfl
  | true =>
    have hk := inn_iff.1 hk
    obtain ⟨g, rfl⟩ : ∃ g, fuel = g + 1 := ⟨fuel - 1, by omega⟩
    rw [if_neg (show ¬ (x.Op < 1 ∨ 16 < x.Op) by omega)]
    simp only [Bool.not_true, Bool.false_eq_true, if_false]
    by_cases h9 : x.Op = 9
    · rw [eqI_t h9, if_pos rfl, if_pos (.inl h9)]; rfl
    by_cases h16 : x.Op = 16
    · rw [eqI_f h9, eqI_t h16]; simp only [Bool.false_eq_true, if_false, if_true]; rw [if_pos (Or.inr h16)]; rfl
    rw [eqI_f h9, eqI_f h16, if_neg (show ¬ (x.Op = 9 ∨ x.Op = 16) by omega)]
    simp only [Bool.false_eq_true, if_false]
    unfold goL
    by_cases h14 : x.Op = 14
    · rw [eqI_t h14, if_pos rfl, app_some (by decide) (by simp), obind, inLoop hn _ (g := M.ref46_Targets_l3 f ([] ++ [x.A])) (fun k i => by rw [M.ref46_Targets_l3]) _ _ 0 (Nat.zero_add _) (by simp; omega), obind, if_pos h14, List.drop_zero, List.nil_append]
      cases h : inL f [x.A] <;> simp [h]
    rw [eqI_f h14, if_neg h14]
    simp only [Bool.false_eq_true, if_false]
    by_cases h13 : x.Op = 13
    · rw [eqI_t h13, if_pos rfl, in_M, obind, if_pos h13]
      cases hb : inn x.B 1 1000 with
      | false => rfl
      | true =>
        have hb' := inn_iff.1 hb
        simp only [Bool.not_true, Bool.false_eq_true, if_false, if_true]
        rw [rswLoop at1 x (by omega) hb'.2 x.B.toNat (g + 1) 1 [] (by omega) (by omega) (by omega) (by simp; omega), obind, List.nil_append,
          inLoop hn _ (g := M.ref46_Targets_l5 f (upL ((at1 : Int) + 1) x.B.toNat)) (fun k i => by rw [M.ref46_Targets_l5]) _ _ 0 (Nat.zero_add _) (by rw [upL_len]; omega), obind, List.drop_zero]
        cases h : inL f (upL ((at1 : Int) + 1) x.B.toNat) <;> simp [h]
    rw [eqI_f h13, if_neg h13]
    simp only [Bool.false_eq_true, if_false]
    rw [chk64 (by omega) (by omega), obind, app_some (by decide) (by simp), obind, inLoop hn _ (g := M.ref46_Targets_l6 f ([] ++ [(at1 : Int) + 1])) (fun k i => by rw [M.ref46_Targets_l6]) _ _ 0 (Nat.zero_add _) (by simp; omega), obind, List.drop_zero, List.nil_append]
    cases h : inL f [(at1 : Int) + 1] <;> simp [h]
theorem tgt_in {f : Api.Fun} {at1 : Nat} {x : Api.Instr} (h : (tgt f at1 x).2 = 0) : ∀ y ∈ (tgt f at1 x).1, 0 ≤ y ∧ y < f.Code.length := by
  unfold tgt at h ⊢
  split
  · intro y hy; cases hy
  · split
    · intro y hy; cases hy
    · rename_i h1 h2
      rw [if_neg h1, if_neg h2] at h
      split
      · intro y hy; cases hy
      · rename_i l hl
        rw [hl] at h
        dsimp only at h ⊢
        split
        · rename_i h3
          intro y hy
          have := inn_iff.1 (List.all_eq_true.1 h3 y hy)
          omega
        · intro y hy; cases hy
end Go.Proofs.Ythbjlmoaceaeeaa
set_option linter.unusedVariables false
set_option linter.unusedSimpArgs false
set_option maxRecDepth 100000
set_option maxHeartbeats 1000000
namespace Go.Proofs.Ythbjlmoaceaeeaa
open Go Go.Abs
def jumps (f : Api.Fun) (at1 : Nat) (n : Nat) : Bool := ((f.Code.drop (at1 + 1)).take n).all fun y => eqI y.Op 14
def rightS (p : Api.Program) (f : Api.Fun) (at1 : Nat) (x : Api.Instr) : Bool :=
  if x.Op < 1 ∨ 16 < x.Op then false
  else if ¬ (x.Op = 7 ∨ x.Op = 13) ∧ x.B ≠ 0 then false
  else if (x.Op = 6 ∨ x.Op = 8 ∨ x.Op = 9) ∧ x.A ≠ 0 then false
  else if x.Op = 1 then inn x.A (-4503599627370496) 4503599627370496
  else if x.Op = 2 then inn x.A 0 ((p.Texts.length : Int) - 1)
  else if x.Op = 3 ∨ x.Op = 4 then inn x.A 0 (f.Locals - 1)
  else if x.Op = 5 then inn x.A 0 (f.Captures - 1)
  else if x.Op = 7 then (if inn x.A 0 ((p.Funs.length : Int) - 1) then (match p.Funs[x.A.toNat]? with | some g => eqI x.B g.Captures | none => false) else false)
  else if x.Op = 10 then inn x.A 0 1000
  else if x.Op = 11 ∨ x.Op = 12 then inn x.A 0 999
  else if x.Op = 13 then (if inn x.A 0 (f.Locals - 1) then (if inn x.B 1 1000 then (if leI (f.Code.length : Int) (at1 + x.B) then false else jumps f at1 x.B.toNat) else false) else false)
  else if x.Op = 14 then inn x.A 0 ((f.Code.length : Int) - 1)
  else if x.Op = 15 then inn x.A 1 14
  else if x.Op = 16 then inn x.A 1 1000000
  else true
structure HeadOk (f : Api.Fun) : Prop where
  c0 : 0 ≤ f.Captures
  c1 : f.Captures ≤ 1000
  l0 : 1 ≤ f.Locals
  l1 : f.Locals ≤ 4096
  d0 : 0 ≤ f.Depth
  d1 : f.Depth ≤ 4096
  n0 : 1 ≤ f.Code.length
  n1 : f.Code.length ≤ 16384
def headS (f : Api.Fun) : Bool := inn f.Captures 0 1000 && (inn f.Locals 1 4096 && (inn f.Depth 0 4096 && inn (f.Code.length : Int) 1 16384))
theorem headS_iff {f : Api.Fun} : headS f = true ↔ HeadOk f := by
  unfold headS
  simp only [Bool.and_eq_true, inn_iff]
  constructor
  · rintro ⟨⟨h1, h2⟩, ⟨h3, h4⟩, ⟨h5, h6⟩, h7, h8⟩; exact ⟨h1, h2, h3, h4, h5, h6, by omega, by omega⟩
  · intro h; exact ⟨⟨h.c0, h.c1⟩, ⟨h.l0, h.l1⟩, ⟨h.d0, h.d1⟩, by have := h.n0; omega, by have := h.n1; omega⟩
theorem cfR (l : List Api.Instr) {fuel : Nat} (hf : l.length < fuel) : M.slices_ContainsFunc_api_Instr_right_1 fuel l = some (!l.all fun y => eqI y.Op 14) := by
  rw [M.slices_ContainsFunc_api_Instr_right_1, M.slices_IndexFunc_api_Instr_right_1]
  have := cf_loop (s := l) (P := fun y => !eqI y.Op 14) (Q := fun x => M.bytecode_right_1 x) (g := M.slices_IndexFunc_api_Instr_right_1_l1 l) (fun k i => by rw [M.slices_IndexFunc_api_Instr_right_1_l1])
    (fun x _ => rfl) hf
  rw [this, any_not]
theorem rrLoop {f : Api.Fun} {at1 : Nat} {x : Api.Instr} (hn : f.Code.length ≤ 16384) (hB : (at1 : Int) + x.B < f.Code.length) : ∀ (n k : Nat) (i : Nat), (i : Int) + n = x.B + 1 → n < k → 1 ≤ i →
    M.ref46_right_l1 f (at1 : Int) x k (i : Int) = some (if ((f.Code.drop (at1 + i)).take n).all fun y => eqI y.Op 14 then .inr () else .inl false)
  | 0, k, i, hi, hk, h1 => by
    obtain ⟨k, rfl⟩ : ∃ g, k = g + 1 := ⟨k - 1, by omega⟩
    rw [M.ref46_right_l1, leI_f (by omega)]; simp
  | n + 1, k, i, hi, hk, h1 => by
    obtain ⟨k, rfl⟩ : ∃ g, k = g + 1 := ⟨k - 1, by omega⟩
    obtain ⟨y, h2, h3, _⟩ := drop_split (s := f.Code) (i := at1 + i) (by omega)
    have ih := rrLoop hn hB n k (i + 1) (by omega) (by omega) (by omega)
    rw [M.ref46_right_l1, leI_t (by omega), if_pos rfl, chk64 (by omega) (by omega), obind, idx_some (x := y) (by omega) (by rw [show ((at1 : Int) + (i : Int)).toNat = at1 + i by omega]; exact h2), obind, h3, List.take_succ_cons, List.all_cons]
    cases hp : eqI y.Op 14 with
    | false => rfl
    | true =>
      rw [if_neg (by simp), chk64 (by omega) (by omega), obind]
      rw [show at1 + (i + 1) = at1 + i + 1 by omega] at ih
      simpa using ih
theorem right_M {p : Api.Program} (hp : p.Funs.length ≤ 4096) (ht : p.Texts.length ≤ 1000) {f : Api.Fun} (hf : HeadOk f) {at1 : Nat} {x : Api.Instr} (hx : f.Code[at1]? = some x) {fuel : Nat} (hfu : 20000 ≤ fuel) :
    M.bytecode_right fuel p f (at1 : Int) = some (rightS p f at1 x) := by
  have hlt := (List.getElem?_eq_some_iff.1 hx).1
  have hi : idx f.Code (at1 : Int) = some x := idx_some (by omega) (by simpa using hx)
  have h1 := hf.c0; have h2 := hf.c1; have h3 := hf.l0; have h4 := hf.l1; have h5 := hf.n1
  have cl : chk .i64 (f.Locals - 1) = some (f.Locals - 1) := chk64 (by omega) (by omega)
  have cc : chk .i64 (f.Captures - 1) = some (f.Captures - 1) := chk64 (by omega) (by omega)
  have cn : chk .i64 ((f.Code.length : Int) - 1) = some ((f.Code.length : Int) - 1) := chk64 (by omega) (by omega)
  have ct : chk .i64 ((p.Texts.length : Int) - 1) = some ((p.Texts.length : Int) - 1) := chk64 (by omega) (by omega)
  have cf : chk .i64 ((p.Funs.length : Int) - 1) = some ((p.Funs.length : Int) - 1) := chk64 (by omega) (by omega)
  rw [M.bytecode_right]
  simp only [hi, obind, known_M]
  clear hi
  obtain ⟨op, a, b⟩ := x
  rcases opCases op with h | h | h | h | h | h | h | h | h | h | h | h | h | h | h | h | h
  · have : inn op 1 16 = false := by cases hi : inn op 1 16 with | false => rfl | true => have := inn_iff.1 hi; omega
    rw [rightS, if_pos h, this]; rfl
  all_goals subst h
  case inr.inr.inr.inr.inr.inr.inr.inl =>
    rw [rightS]
    simp only [cf, within_M, obind]
    cases hk : inn a 0 ((p.Funs.length : Int) - 1) with
    | false => simp [inn, leI, eqI, ltI, idx, M.bytecode_words]
    | true =>
      have hk' := inn_iff.1 hk
      obtain ⟨g, hg, _⟩ := drop_split (s := p.Funs) (i := a.toNat) (by omega)
      simp [inn, leI, eqI, ltI, idx, M.bytecode_words, hg, hk'.1]
  case inr.inr.inr.inr.inr.inr.inr.inr.inr.inr.inr.inr.inr.inl =>
    rw [rightS]
    simp only [cl, within_M, obind]
    cases hk : inn a 0 (f.Locals - 1) with
    | false => simp [inn, leI, eqI, ltI, idx, M.bytecode_words]
    | true =>
      cases hb : inn b 1 1000 with
      | false => simp [inn, leI, eqI, ltI, idx, M.bytecode_words]
      | true =>
        have hb' := inn_iff.1 hb
        have cs : chk .i64 ((at1 : Int) + b) = some ((at1 : Int) + b) := chk64 (by omega) (by omega)
        by_cases hc : (f.Code.length : Int) ≤ (at1 : Int) + b
        · simp [inn, leI, eqI, ltI, idx, M.bytecode_words, cs, hc]
        · have c1 : chk .i64 ((at1 : Int) + 1) = some ((at1 : Int) + 1) := chk64 (by omega) (by omega)
          have c2 : chk .i64 ((at1 : Int) + 1 + b) = some ((at1 : Int) + 1 + b) := chk64 (by omega) (by omega)
          have e1 : subC f.Code ((at1 : Int) + 1) ((at1 : Int) + 1 + b) = some ((f.Code.drop (at1 + 1)).take b.toNat) := by
            rw [subC, if_pos ⟨by omega, by omega, by omega⟩, sub, show ((at1 : Int) + 1).toNat = at1 + 1 by omega, show ((at1 : Int) + 1 + b).toNat - (at1 + 1) = b.toNat by omega]
          have e2 := cfR ((f.Code.drop (at1 + 1)).take b.toNat) (fuel := fuel) (by rw [List.length_take]; omega)
          unfold eqI at e2
          simp [inn, leI, eqI, ltI, idx, M.bytecode_words, jumps, cs, hc, c1, c2, e1, e2]
  all_goals
    rw [rightS]
    simp only [cl, cc, cn, ct, cf, within_M, obind]
    by_cases ha : a = 0 <;> by_cases hb : b = 0 <;> simp [ha, hb, inn, leI, eqI, ltI, idx, M.bytecode_words]
theorem arity_pos (a : Int) : ((M.ref46_Arity a).bind fun v => some (decide (0 < v))) = some (decide (1 ≤ a) && decide (a ≤ 14)) := by
  unfold M.ref46_Arity
  by_cases h1 : a = 6
  · subst h1; rfl
  by_cases h2 : a = 11
  · subst h2; rfl
  by_cases h3 : a = 13
  · subst h3; rfl
  by_cases h4 : a = 14
  · subst h4; rfl
  rw [eqI_f h1, eqI_f h2, eqI_f h3, eqI_f h4]
  simp only [Bool.false_eq_true, if_false]
  by_cases h5 : a < 1
  · rw [ltI_t h5, decide_eq_false (show ¬ 1 ≤ a by omega)]; rfl
  · by_cases h6 : 14 < a
    · rw [ltI_f (by omega), ltI_t h6, decide_eq_false (show ¬ a ≤ 14 by omega), Bool.and_false]; rfl
    · rw [ltI_f (by omega), ltI_f (by omega), decide_eq_true (show 1 ≤ a by omega), decide_eq_true (show a ≤ 14 by omega)]; rfl
theorem rright_M {p : Api.Program} (hp : p.Funs.length ≤ 4096) (ht : p.Texts.length ≤ 1000) {f : Api.Fun} (hf : HeadOk f) {at1 : Nat} {x : Api.Instr} (hx : f.Code[at1]? = some x) {fuel : Nat} (hfu : 20000 ≤ fuel) :
    M.ref46_right fuel p f (at1 : Int) = some (rightS p f at1 x) := by
  have hlt := (List.getElem?_eq_some_iff.1 hx).1
  have hi : idx f.Code (at1 : Int) = some x := idx_some (by omega) (by simpa using hx)
  have h1 := hf.c0; have h2 := hf.c1; have h3 := hf.l0; have h4 := hf.l1; have h5 := hf.n1
  have cl : chk .i64 (f.Locals - 1) = some (f.Locals - 1) := chk64 (by omega) (by omega)
  have cc : chk .i64 (f.Captures - 1) = some (f.Captures - 1) := chk64 (by omega) (by omega)
  have cn : chk .i64 ((f.Code.length : Int) - 1) = some ((f.Code.length : Int) - 1) := chk64 (by omega) (by omega)
  have ct : chk .i64 ((p.Texts.length : Int) - 1) = some ((p.Texts.length : Int) - 1) := chk64 (by omega) (by omega)
  have cf : chk .i64 ((p.Funs.length : Int) - 1) = some ((p.Funs.length : Int) - 1) := chk64 (by omega) (by omega)
  obtain ⟨w, hw1, hw2⟩ := word_M x.Op
  rw [M.ref46_right]
  simp only [hi, obind, hw1, hw2]
  clear hi hw1 hw2
  obtain ⟨op, a, b⟩ := x
  rcases opCases op with h | h | h | h | h | h | h | h | h | h | h | h | h | h | h | h | h
  · have : inn op 1 16 = false := by cases hi : inn op 1 16 with | false => rfl | true => have := inn_iff.1 hi; omega
    rw [rightS, if_pos h, this]; rfl
  all_goals subst h
  case inr.inr.inr.inr.inr.inr.inr.inl =>
    rw [rightS]
    simp only [cf, in_M, obind]
    cases hk : inn a 0 ((p.Funs.length : Int) - 1) with
    | false => simp [inn, leI, eqI, ltI, idx, M.ref46_Operands]
    | true =>
      have hk' := inn_iff.1 hk
      obtain ⟨g, hg, _⟩ := drop_split (s := p.Funs) (i := a.toNat) (by omega)
      simp [inn, leI, eqI, ltI, idx, M.ref46_Operands, hg, hk'.1]
  case inr.inr.inr.inr.inr.inr.inr.inr.inr.inr.inr.inr.inr.inl =>
    rw [rightS]
    simp only [cl, in_M, obind]
    cases hk : inn a 0 (f.Locals - 1) with
    | false => simp [inn, leI, eqI, ltI, idx, M.ref46_Operands]
    | true =>
      cases hb : inn b 1 1000 with
      | false => simp [inn, leI, eqI, ltI, idx, M.ref46_Operands]
      | true =>
        have hb' := inn_iff.1 hb
        have cs : chk .i64 ((at1 : Int) + b) = some ((at1 : Int) + b) := chk64 (by omega) (by omega)
        by_cases hc : (f.Code.length : Int) ≤ (at1 : Int) + b
        · simp [inn, leI, eqI, ltI, idx, M.ref46_Operands, cs, hc]
        · have e2 := rrLoop (f := f) (at1 := at1) (x := ⟨13, a, b⟩) h5 (by show (at1 : Int) + b < f.Code.length; omega) b.toNat fuel 1 (by show (1 : Int) + b.toNat = b + 1; omega) (by omega) (by omega)
          rw [show ((1 : Nat) : Int) = 1 from rfl] at e2
          unfold eqI at e2
          cases hj : ((f.Code.drop (at1 + 1)).take b.toNat).all fun y => decide (y.Op = 14) with
          | true => rw [hj, if_pos rfl] at e2; simp [inn, leI, eqI, ltI, idx, M.ref46_Operands, jumps, cs, hc, e2, hj]
          | false => rw [hj, if_neg (by simp)] at e2; simp [inn, leI, eqI, ltI, idx, M.ref46_Operands, jumps, cs, hc, e2, hj]
  all_goals
    rw [rightS]
    simp only [cl, cc, cn, ct, cf, in_M, obind]
    by_cases ha : a = 0 <;> by_cases hb : b = 0 <;> simp [ha, hb, inn, leI, eqI, ltI, idx, M.ref46_Operands, arity_pos]
def rightsS (p : Api.Program) (f : Api.Fun) : Bool := (f.Code.zipIdx 0).all fun q => rightS p f q.2 q.1
def validS (p : Api.Program) : Bool :=
  inn (p.Funs.length : Int) 1 4096 && (decide (p.Texts.length ≤ 1000) && (p.Texts.all txt && (p.Funs.all headS && (p.Funs.all (rightsS p) && (inn p.Main 0 ((p.Funs.length : Int) - 1) &&
    (match p.Funs[p.Main.toNat]? with | some g => eqI g.Captures 0 | none => false))))))
theorem sumF {R A : Type} {b : Bool} {r : R} {f : R → Option A} {g : Unit → Option A} : ((some (if b = true then .inr () else .inl r) : Option (R ⊕ Unit)).bind fun o => Sum.elim f g o) = if b = true then g () else f r := by cases b <;> rfl
theorem Valid_M (p : Api.Program) {fuel : Nat} (hf : 20000 ≤ fuel) : M.bytecode_Valid fuel p = some (validS p) := by
  rw [M.bytecode_Valid]
  unfold validS
  simp only [within_M, obind]
  cases h1 : inn (p.Funs.length : Int) 1 4096 with
  | false => rfl
  | true =>
  have h1' := inn_iff.1 h1
  simp only [Bool.not_true, Bool.false_eq_true, if_false, Bool.true_and]
  by_cases h2 : p.Texts.length ≤ 1000
  case neg => rw [ltI_t (by omega), decide_eq_false h2]; rfl
  rw [ltI_f (by omega), decide_eq_true h2]
  simp only [Bool.false_eq_true, if_false, Bool.true_and]
  have ht : M.slices_ContainsFunc_string_Valid_1 fuel p.Texts = some (!p.Texts.all txt) := by
    rw [M.slices_ContainsFunc_string_Valid_1, M.slices_IndexFunc_string_Valid_1]
    have := cf_loop (s := p.Texts) (P := fun y => !txt y) (Q := fun x => M.bytecode_Valid_1 fuel x) (g := M.slices_IndexFunc_string_Valid_1_l1 fuel p.Texts) (fun k i => by rw [M.slices_IndexFunc_string_Valid_1_l1])
      (fun x _ => by rw [M.bytecode_Valid_1, quoted_M x hf]; rfl) (k := fuel) (by omega)
    rw [this, any_not]
  rw [ht]
  simp only [obind]
  cases h3 : p.Texts.all txt with
  | false => rfl
  | true =>
  simp only [Bool.not_true, Bool.false_eq_true, if_false, Bool.true_and]
  rw [all_loop (s := p.Funs) (P := headS) (g := M.bytecode_Valid_l1 p) (Q := fun _ x => (((M.bytecode_within x.Captures 0 1000).bind fun v28 => if !v28 then some true else (M.bytecode_within x.Locals 1 4096).bind fun v33 => if !v33 then some true else
        (M.bytecode_within x.Depth 0 4096).bind fun v38 => if !v38 then some true else (M.bytecode_within (x.Code.length : Int) 1 16384).bind fun v43 => some (!v43) : Option Bool).bind fun b => some (!b))) ?_ ?_ p.Funs.length fuel 0 (by omega) (by omega)]
  rotate_left
  · intro k i
    rw [M.bytecode_Valid_l1]
    split
    · cases p.Funs[i]? with
      | none => rfl
      | some x =>
        simp only [obind]
        cases hq : (((M.bytecode_within x.Captures 0 1000).bind fun v28 => if !v28 then some true else (M.bytecode_within x.Locals 1 4096).bind fun v33 => if !v33 then some true else
          (M.bytecode_within x.Depth 0 4096).bind fun v38 => if !v38 then some true else (M.bytecode_within (x.Code.length : Int) 1 16384).bind fun v43 => some (!v43) : Option Bool)) with
        | none => rfl
        | some b => cases b <;> rfl
    · rfl
  · intro i x _
    unfold headS
    simp only [within_M, obind]
    cases inn x.Captures 0 1000 <;> cases inn x.Locals 1 4096 <;> cases inn x.Depth 0 4096 <;> cases inn (x.Code.length : Int) 1 16384 <;> rfl
  rw [sumF, List.drop_zero]
  cases h4 : p.Funs.all headS with
  | false => rfl
  | true =>
  simp only [if_true, Bool.true_and]
  have h4' := fun x hx => headS_iff.1 (List.all_eq_true.1 h4 x hx)
  rw [all_loop (s := p.Funs) (P := rightsS p) (g := M.bytecode_Valid_l2 fuel p) (Q := fun _ x => (M.bytecode_Valid_l3 fuel p x fuel 0).bind fun o => Sum.elim (fun r => some r) (fun _ => some true) o) ?_ ?_ p.Funs.length fuel 0 (by omega) (by omega)]
  rotate_left
  · intro k i
    rw [M.bytecode_Valid_l2]
    split
    · cases hpi : p.Funs[i]? with
      | none => rfl
      | some x =>
        simp only [obind]
        have hx := h4' x (List.mem_of_getElem? hpi)
        have h5 := hx.n1
        rw [alli_loop (s := x.Code) (P := fun i y => rightS p x i y) (g := M.bytecode_Valid_l3 fuel p x) (Q := fun i _ => M.bytecode_right fuel p x ((i : Nat) : Int)) ?_ (fun i y hy => right_M (by omega) h2 hx hy hf) x.Code.length fuel 0 (by omega) (by omega)]
        · split <;> rfl
        · intro k i
          rw [M.bytecode_Valid_l3]
          split
          · rename_i hlt
            have := ltT hlt
            obtain ⟨y, hy, _⟩ := drop_split (s := x.Code) (i := i) (by omega)
            rw [hy]; rfl
          · rfl
    · rfl
  · intro i x hpi
    have hx := h4' x (List.mem_of_getElem? hpi)
    have h5 := hx.n1
    rw [alli_loop (s := x.Code) (P := fun i y => rightS p x i y) (g := M.bytecode_Valid_l3 fuel p x) (Q := fun i _ => M.bytecode_right fuel p x ((i : Nat) : Int)) ?_ (fun i y hy => right_M (by omega) h2 hx hy hf) x.Code.length fuel 0 (by omega) (by omega)]
    · unfold rightsS
      rw [List.drop_zero]
      split
      · rename_i h; rw [h]; rfl
      · rename_i h; simp only [Bool.not_eq_true] at h; rw [h]; rfl
    · intro k i
      rw [M.bytecode_Valid_l3]
      split
      · rename_i hlt
        have := ltT hlt
        obtain ⟨y, hy, _⟩ := drop_split (s := x.Code) (i := i) (by omega)
        rw [hy]; rfl
      · rfl
  rw [sumF, List.drop_zero]
  cases h5 : p.Funs.all (rightsS p) with
  | false => rfl
  | true =>
  simp only [if_true, Bool.true_and]
  rw [chk64 (by omega) (by omega)]
  simp only [obind]
  cases h6 : inn p.Main 0 ((p.Funs.length : Int) - 1) with
  | false => rfl
  | true =>
    have h6' := inn_iff.1 h6
    obtain ⟨g, hg, _⟩ := drop_split (s := p.Funs) (i := p.Main.toNat) (by omega)
    rw [if_pos rfl, idx_some h6'.1 hg, hg]; rfl
theorem all_and {α : Type} (l : List α) (P Q : α → Bool) : l.all (fun x => P x && Q x) = (l.all P && l.all Q) := by
  induction l with
  | nil => rfl
  | cons x l ih => simp only [List.all_cons, ih]; cases P x <;> cases Q x <;> cases l.all P <;> cases l.all Q <;> rfl
theorem RValid_M (p : Api.Program) {fuel : Nat} (hf : 20000 ≤ fuel) : M.ref46_Valid fuel p = some (validS p) := by
  rw [M.ref46_Valid]
  unfold validS
  simp only [in_M, obind]
  cases h1 : inn (p.Funs.length : Int) 1 4096 with
  | false => rfl
  | true =>
  have h1' := inn_iff.1 h1
  simp only [Bool.not_true, Bool.false_eq_true, if_false, Bool.true_and]
  by_cases h2 : p.Texts.length ≤ 1000
  case neg => rw [ltI_t (by omega), decide_eq_false h2]; rfl
  rw [ltI_f (by omega), decide_eq_true h2]
  simp only [Bool.false_eq_true, if_false, Bool.true_and]
  rw [chk64 (by omega) (by omega)]
  simp only [obind]
  cases h6 : inn p.Main 0 ((p.Funs.length : Int) - 1) with
  | false => simp [obind]
  | true =>
  have h6' := inn_iff.1 h6
  obtain ⟨g, hg, _⟩ := drop_split (s := p.Funs) (i := p.Main.toNat) (by omega)
  rw [idx_some h6'.1 hg, hg]
  simp only [Bool.not_true, Bool.false_eq_true, if_false, obind, Bool.true_and]
  cases h7 : eqI g.Captures 0 with
  | false => simp
  | true =>
  simp only [Bool.not_true, Bool.false_eq_true, if_false, Bool.and_true]
  rw [all_loop (s := p.Texts) (P := txt) (g := M.ref46_Valid_l1 fuel p) (Q := fun _ x => M.ref46_textual fuel x) (fun k i => by rw [M.ref46_Valid_l1]) (fun i x _ => textual_M x hf) p.Texts.length fuel 0 (by omega) (by omega), sumF, List.drop_zero]
  cases h3 : p.Texts.all txt with
  | false => rfl
  | true =>
  simp only [if_true, Bool.true_and]
  have loop3 : ∀ x, HeadOk x → M.ref46_Valid_l3 fuel p x fuel 0 = some (if rightsS p x then .inr () else .inl false) := fun x hx => by
    have h5 := hx.n1
    rw [alli_loop (s := x.Code) (P := fun i y => rightS p x i y) (g := M.ref46_Valid_l3 fuel p x) (Q := fun i _ => M.ref46_right fuel p x ((i : Nat) : Int)) ?_ (fun i y hy => rright_M (by omega) h2 hx hy hf) x.Code.length fuel 0 (by omega) (by omega)]
    · unfold rightsS; rw [List.drop_zero]
    · intro k i
      rw [M.ref46_Valid_l3]
      split
      · rename_i hlt
        have := ltT hlt
        obtain ⟨y, hy, _⟩ := drop_split (s := x.Code) (i := i) (by omega)
        rw [hy]; rfl
      · rfl
  have head : ∀ x : Api.Fun, ((M.ref46_in x.Captures 0 1000).bind fun v61 => if !v61 then some true else (M.ref46_in x.Locals 1 4096).bind fun v66 => if !v66 then some true else
        (M.ref46_in x.Depth 0 4096).bind fun v71 => if !v71 then some true else (M.ref46_in (x.Code.length : Int) 1 16384).bind fun v76 => some (!v76) : Option Bool) = some (!headS x) := fun x => by
    unfold headS
    simp only [in_M, obind]
    cases inn x.Captures 0 1000 <;> cases inn x.Locals 1 4096 <;> cases inn x.Depth 0 4096 <;> cases inn (x.Code.length : Int) 1 16384 <;> rfl
  rw [all_loop (s := p.Funs) (P := fun x => headS x && rightsS p x) (g := M.ref46_Valid_l2 fuel p) (Q := fun _ x => some (headS x && rightsS p x)) ?_ (fun i x _ => rfl) p.Funs.length fuel 0 (by omega) (by omega), sumF, List.drop_zero, all_and]
  · cases p.Funs.all headS <;> cases p.Funs.all (rightsS p) <;> rfl
  · intro k i
    rw [M.ref46_Valid_l2]
    split
    · cases hpi : p.Funs[i]? with
      | none => rfl
      | some x =>
        simp only [obind]
        rw [head x, obind]
        cases hh : headS x with
        | false => rfl
        | true =>
          simp only [Bool.not_true, Bool.false_eq_true, if_false, Bool.true_and]
          rw [loop3 x (headS_iff.1 hh)]
          cases rightsS p x <;> rfl
    · rfl
end Go.Proofs.Ythbjlmoaceaeeaa
set_option linter.unusedVariables false
set_option linter.unusedSimpArgs false
set_option maxRecDepth 100000
set_option maxHeartbeats 1000000
namespace Go.Proofs.Ythbjlmoaceaeeaa
open Go Go.Abs
abbrev St := List (Option (Int × List Bool))
def Sub (w v : List Bool) : Prop := w.length = v.length ∧ ∀ k : Nat, w[k]? = some true → v[k]? = some true
theorem Sub.refl (v : List Bool) : Sub v v := ⟨rfl, fun _ h => h⟩
theorem Sub.trans {u v w : List Bool} (h : Sub u v) (h' : Sub v w) : Sub u w := ⟨h.1.trans h'.1, fun k hk => h'.2 k (h.2 k hk)⟩
theorem Sub.antisymm {v w : List Bool} (h : Sub v w) (h' : Sub w v) : v = w := by
  apply List.ext_getElem h.1
  intro i h1 h2
  have a := h.2 i; have b := h'.2 i
  rw [List.getElem?_eq_getElem h1, List.getElem?_eq_getElem h2] at a b
  cases hv : v[i] <;> cases hw : w[i] <;> simp_all
def both (v w : List Bool) : List Bool := List.zipWith (fun a b => a && b) v w
theorem both_len {v w : List Bool} (h : v.length = w.length) : (both v w).length = v.length := by simp [both, h]
theorem both_get {v w : List Bool} (h : v.length = w.length) (k : Nat) : (both v w)[k]? = some true ↔ v[k]? = some true ∧ w[k]? = some true := by
  unfold both
  rw [List.getElem?_zipWith]
  rcases Nat.lt_or_ge k v.length with h1 | h1
  · rw [List.getElem?_eq_getElem h1, List.getElem?_eq_getElem (by omega)]
    simp
  · rw [List.getElem?_eq_none h1, List.getElem?_eq_none (by omega)]; simp
theorem both_l {v w : List Bool} (h : v.length = w.length) : Sub (both v w) v := ⟨both_len h, fun k hk => ((both_get h k).1 hk).1⟩
theorem both_r {v w : List Bool} (h : v.length = w.length) : Sub (both v w) w := ⟨(both_len h).trans h, fun k hk => ((both_get h k).1 hk).2⟩
theorem both_sub {u v w : List Bool} (h : Sub u v) (h' : Sub u w) : Sub u (both v w) := by
  have e : v.length = w.length := h.1.symm.trans h'.1
  exact ⟨h.1.trans (both_len e).symm, fun k hk => (both_get e k).2 ⟨h.2 k hk, h'.2 k hk⟩⟩
theorem both_eq {v w : List Bool} (h : v.length = w.length) (e : both v w = v) : Sub v w := by have := both_r h; rw [e] at this; exact this
theorem both_self (v : List Bool) : both v v = v := by
  induction v with
  | nil => rfl
  | cons a v ih => show (a && a) :: both v v = _; rw [ih, Bool.and_self]
theorem sub_set {w v : List Bool} (h : Sub w v) (k : Nat) : Sub (w.set k true) (v.set k true) := by
  refine ⟨by simp [h.1], fun j hj => ?_⟩
  rw [List.getElem?_set] at hj ⊢
  have := h.1
  by_cases e : k = j
  · subst e
    rw [if_pos rfl] at hj ⊢
    split at hj
    · rename_i h1; rw [if_pos (by omega)]
    · cases hj
  · rw [if_neg e] at hj ⊢; exact h.2 j hj
theorem sub_set_self (v : List Bool) (k : Nat) : Sub v (v.set k true) := by
  refine ⟨by simp, fun j hj => ?_⟩
  rw [List.getElem?_set]
  have := (List.getElem?_eq_some_iff.1 hj).1
  by_cases e : k = j
  · subst e; rw [if_pos rfl, if_pos this]
  · rw [if_neg e]; exact hj
def flow (f : Api.Fun) (at1 : Nat) (d : Int) (v : List Bool) : Option (Int × List Bool × List Int) :=
  match f.Code[at1]? with
  | none => none
  | some i =>
    if (eff i).2.2 ≠ 0 ∨ d < (eff i).1 ∨ (i.Op = 9 ∧ d ≠ 1) ∨ f.Depth < d - (eff i).1 + (eff i).2.1 ∨ (i.Op = 3 ∧ v[i.A.toNat]? ≠ some true) ∨ (tgt f at1 i).2 ≠ 0 then none
    else some (d - (eff i).1 + (eff i).2.1, if i.Op = 4 ∨ i.Op = 13 then v.set i.A.toNat true else v, (tgt f at1 i).1)
theorem flow_mono {f : Api.Fun} {at1 : Nat} {d : Int} {v w : List Bool} (h : Sub w v) {d' : Int} {w' : List Bool} {ts : List Int} (hf : flow f at1 d w = some (d', w', ts)) :
    ∃ v', flow f at1 d v = some (d', v', ts) ∧ Sub w' v' := by
  unfold flow at hf ⊢
  split at hf
  · cases hf
  · rename_i i hi
    split at hf
    · cases hf
    · rename_i hc
      simp only [Option.some.injEq, Prod.mk.injEq] at hf
      obtain ⟨rfl, rfl, rfl⟩ := hf
      simp only [not_or] at hc
      obtain ⟨c1, c2, c3, c4, c5, c6⟩ := hc
      rw [if_neg]
      · refine ⟨_, rfl, ?_⟩
        split
        · exact sub_set h _
        · exact h
      · simp only [not_or]
        refine ⟨c1, c2, c3, c4, fun h5 => ?_, c6⟩
        apply c5
        refine ⟨h5.1, fun h6 => h5.2 (h.2 _ h6)⟩
theorem flow_len {f : Api.Fun} {at1 : Nat} {d : Int} {v : List Bool} {d' : Int} {v' : List Bool} {ts : List Int} (h : flow f at1 d v = some (d', v', ts)) : v'.length = v.length ∧ Sub v v' ∧ 0 ≤ d' ∧ d' ≤ f.Depth ∧ (∀ t ∈ ts, 0 ≤ t ∧ t < f.Code.length) := by
  unfold flow at h
  split at h
  · cases h
  · rename_i i hi
    split at h
    · cases h
    · rename_i hc
      simp only [Option.some.injEq, Prod.mk.injEq] at h
      obtain ⟨rfl, rfl, rfl⟩ := h
      simp only [not_or] at hc
      obtain ⟨c1, c2, c3, c4, c5, c6⟩ := hc
      have e := eff_ok (i := i) (Decidable.byContradiction c1)
      refine ⟨by split <;> simp, ?_, by omega, by omega, tgt_in (Decidable.byContradiction c6)⟩
      split
      · exact sub_set_self _ _
      · exact Sub.refl _
def Sat (f : Api.Fun) (X : St) (at1 : Nat) : Prop := ∀ (d : Int) (v : List Bool), X[at1]? = some (some (d, v)) → ∃ d' v' ts, flow f at1 d v = some (d', v', ts) ∧ ∀ t ∈ ts, ∃ w, X[t.toNat]? = some (some (d', w)) ∧ Sub w v'
structure Good0 (f : Api.Fun) (X : St) : Prop where
  len : X.length = f.Code.length
  row : ∀ (t : Nat) (d : Int) (v : List Bool), X[t]? = some (some (d, v)) → v.length = f.Locals.toNat ∧ 0 ≤ d ∧ d ≤ 4096
def first (f : Api.Fun) : List Bool := (List.replicate f.Locals.toNat false).set 0 true
structure Cons (f : Api.Fun) (X : St) : Prop extends Good0 f X where
  start : ∃ v, X[0]? = some (some (0, v)) ∧ Sub v (first f)
  sat : ∀ at1, Sat f X at1
def Le (X Y : St) : Prop := X.length = Y.length ∧ ∀ (t : Nat) (d : Int) (v : List Bool), X[t]? = some (some (d, v)) → ∃ w, Y[t]? = some (some (d, w)) ∧ Sub w v
theorem Le.antisymm {X Y : St} (h : Le X Y) (h' : Le Y X) : X = Y := by
  apply List.ext_getElem?
  intro t
  rcases Nat.lt_or_ge t X.length with h1 | h1
  · have e1 := List.getElem?_eq_getElem h1
    have e2 := List.getElem?_eq_getElem (l := Y) (i := t) (by rw [← h.1]; exact h1)
    cases hx : X[t] with
    | none =>
      cases hy : Y[t]'(by rw [← h.1]; exact h1) with
      | none => rw [e1, e2, hx, hy]
      | some q =>
        rw [hy] at e2
        obtain ⟨w, hw, _⟩ := h'.2 t q.1 q.2 e2
        rw [e1, hx] at hw; cases hw
    | some p =>
      rw [hx] at e1
      obtain ⟨w, hw, s1⟩ := h.2 t p.1 p.2 e1
      obtain ⟨u, hu, s2⟩ := h'.2 t p.1 w hw
      rw [e1] at hu
      simp only [Option.some.injEq] at hu
      have e3 : u = p.2 := by rw [hu]
      subst e3
      rw [e1, hw, s1.antisymm s2]
  · rw [List.getElem?_eq_none h1, List.getElem?_eq_none (by rw [← h.1]; exact h1)]
def Least (f : Api.Fun) (X : St) : Prop := Cons f X ∧ ∀ Y, Cons f Y → Le X Y
theorem Least.uniq {f : Api.Fun} {X Y : St} (h : Least f X) (h' : Least f Y) : X = Y := (h.2 Y h'.1).antisymm (h'.2 X h.1)
def mt (X : St) (t : Nat) (d : Int) (v : List Bool) : Option (St × Bool) :=
  match X[t]? with
  | none => none
  | some none => some (X.set t (some (d, v)), true)
  | some (some (d0, v0)) => if d0 ≠ d then none else if both v0 v = v0 then some (X, false) else some (X.set t (some (d0, both v0 v)), true)
def mts (d : Int) (v : List Bool) : List Int → St → Option (St × List Int)
  | [], X => some (X, [])
  | t :: ts, X => (mt X t.toNat d v).bind fun p => (mts d v ts p.1).bind fun q => some (q.1, if p.2 then t :: q.2 else q.2)
theorem set_get {α : Type} {X : List α} {t u : Nat} {o r : α} (h : (X.set t o)[u]? = some r) : (u = t ∧ r = o) ∨ (u ≠ t ∧ X[u]? = some r) := by
  by_cases e : u = t
  · subst e
    have : u < X.length := by have := (List.getElem?_eq_some_iff.1 h).1; simpa using this
    rw [List.getElem?_set_self this] at h
    exact .inl ⟨rfl, (Option.some.inj h).symm⟩
  · rw [List.getElem?_set_ne (Ne.symm e)] at h
    exact .inr ⟨e, h⟩
theorem mt_good {f : Api.Fun} {X : St} (hX : Good0 f X) {t : Nat} {d : Int} {v : List Bool} (hv : v.length = f.Locals.toNat) (hd : 0 ≤ d ∧ d ≤ 4096) {X' : St} {c : Bool} (h : mt X t d v = some (X', c)) :
    Good0 f X' ∧ (∃ w, X'[t]? = some (some (d, w)) ∧ Sub w v) ∧ (∀ u : Nat, u ≠ t → X'[u]? = X[u]?) ∧ (c = false → X' = X) ∧ (∀ (u : Nat) (d0 : Int) (v0 : List Bool), X[u]? = some (some (d0, v0)) → ∃ w, X'[u]? = some (some (d0, w)) ∧ Sub w v0) := by
  unfold mt at h
  split at h
  · cases h
  · rename_i ht
    simp only [Option.some.injEq, Prod.mk.injEq] at h
    obtain ⟨rfl, rfl⟩ := h
    have hlt := (List.getElem?_eq_some_iff.1 ht).1
    refine ⟨⟨by simp [hX.len], fun u d1 v1 hu => ?_⟩, ⟨v, by rw [List.getElem?_set_self hlt], Sub.refl v⟩, fun u hu => by rw [List.getElem?_set_ne (Ne.symm hu)], fun hc => absurd hc (by simp), fun u d0 v0 hu => ?_⟩
    · rcases set_get hu with ⟨rfl, e⟩ | ⟨_, e⟩
      · cases e; exact ⟨hv, hd⟩
      · exact hX.row u d1 v1 e
    · have : t ≠ u := fun e => by subst e; rw [ht] at hu; cases hu
      exact ⟨v0, by rw [List.getElem?_set_ne this]; exact hu, Sub.refl _⟩
  · rename_i d0 v0 ht
    have hlt := (List.getElem?_eq_some_iff.1 ht).1
    have hr := hX.row t d0 v0 ht
    have hl : v0.length = v.length := hr.1.trans hv.symm
    split at h
    · cases h
    · rename_i hd0
      have hd0 : d0 = d := Decidable.byContradiction hd0
      subst hd0
      split at h
      · rename_i hb
        simp only [Option.some.injEq, Prod.mk.injEq] at h
        obtain ⟨rfl, rfl⟩ := h
        exact ⟨hX, ⟨v0, ht, both_eq hl hb⟩, fun _ _ => rfl, fun _ => rfl, fun u d0 v0 hu => ⟨v0, hu, Sub.refl _⟩⟩
      · simp only [Option.some.injEq, Prod.mk.injEq] at h
        obtain ⟨rfl, rfl⟩ := h
        refine ⟨⟨by simp [hX.len], fun u d1 v1 hu => ?_⟩, ⟨_, by rw [List.getElem?_set_self hlt], both_r hl⟩, fun u hu => by rw [List.getElem?_set_ne (Ne.symm hu)], fun hc => absurd hc (by simp), fun u d1 v1 hu => ?_⟩
        · rcases set_get hu with ⟨rfl, e⟩ | ⟨_, e⟩
          · cases e; exact ⟨(both_len hl).trans hr.1, hr.2⟩
          · exact hX.row u d1 v1 e
        · by_cases e : t = u
          · subst e
            rw [ht] at hu; cases hu
            exact ⟨_, by rw [List.getElem?_set_self hlt], both_l hl⟩
          · exact ⟨v1, by rw [List.getElem?_set_ne e]; exact hu, Sub.refl _⟩
theorem mt_le {X Y : St} {t : Nat} {d : Int} {v w : List Bool} (h : Le X Y) (hy : Y[t]? = some (some (d, w))) (hs : Sub w v) : ∃ X' c, mt X t d v = some (X', c) ∧ Le X' Y := by
  have hlt : t < X.length := by rw [h.1]; exact (List.getElem?_eq_some_iff.1 hy).1
  unfold mt
  cases hx : X[t]? with
  | none => rw [List.getElem?_eq_getElem hlt] at hx; cases hx
  | some o =>
    cases o with
    | none =>
      refine ⟨_, _, rfl, by rw [List.length_set]; exact h.1, fun u d1 v1 hu => ?_⟩
      rcases set_get hu with ⟨rfl, e⟩ | ⟨_, e⟩
      · cases e; exact ⟨w, hy, hs⟩
      · exact h.2 u d1 v1 e
    | some p =>
      obtain ⟨d0, v0⟩ := p
      obtain ⟨w0, h1, h2⟩ := h.2 t d0 v0 hx
      rw [hy] at h1
      simp only [Option.some.injEq, Prod.mk.injEq] at h1
      obtain ⟨rfl, rfl⟩ := h1
      dsimp only
      rw [if_neg (by simp)]
      split
      · exact ⟨_, _, rfl, h⟩
      · refine ⟨_, _, rfl, by rw [List.length_set]; exact h.1, fun u d1 v1 hu => ?_⟩
        rcases set_get hu with ⟨rfl, e⟩ | ⟨_, e⟩
        · cases e; exact ⟨w, hy, both_sub h2 hs⟩
        · exact h.2 u d1 v1 e
theorem mts_good {f : Api.Fun} {d : Int} {v : List Bool} (hv : v.length = f.Locals.toNat) (hd : 0 ≤ d ∧ d ≤ 4096) : ∀ {ts : List Int} {X : St} {X' : St} {l : List Int}, Good0 f X → mts d v ts X = some (X', l) →
    Good0 f X' ∧ (∀ t ∈ ts, ∃ w, X'[t.toNat]? = some (some (d, w)) ∧ Sub w v) ∧ (∀ u : Nat, (∀ t ∈ l, u ≠ t.toNat) → X'[u]? = X[u]?) ∧ (l = [] → X' = X) ∧ (∀ t ∈ l, t ∈ ts) ∧ (∀ (u : Nat) (d0 : Int) (v0 : List Bool), X[u]? = some (some (d0, v0)) → ∃ w, X'[u]? = some (some (d0, w)) ∧ Sub w v0)
  | [], X, X', l, hX, h => by
    cases h
    exact ⟨hX, (fun t ht => by cases ht), fun _ _ => rfl, fun _ => rfl, (fun t ht => by cases ht), fun u d0 v0 hu => ⟨v0, hu, Sub.refl _⟩⟩
  | t :: ts, X, X', l, hX, h => by
    rw [mts] at h
    obtain ⟨p, h1, h⟩ := bs h
    obtain ⟨q, h2, h⟩ := bs h
    obtain ⟨X1, c⟩ := p
    obtain ⟨X2, l2⟩ := q
    dsimp only at h h2
    simp only [Option.some.injEq, Prod.mk.injEq] at h
    obtain ⟨rfl, rfl⟩ := h
    obtain ⟨g1, g2, g3, g4, g5⟩ := mt_good hX hv hd h1
    obtain ⟨k1, k2, k3, k4, k5, k6⟩ := mts_good hv hd g1 h2
    refine ⟨k1, fun t' ht' => ?_, fun u hu => ?_, fun hl => ?_, fun t' ht' => ?_, fun u d0 v0 hu => ?_⟩
    · rcases List.mem_cons.1 ht' with rfl | ht'
      · obtain ⟨w, w1, w2⟩ := g2
        obtain ⟨w', w3, w4⟩ := k6 _ _ _ w1
        exact ⟨w', w3, w4.trans w2⟩
      · exact k2 t' ht'
    · cases c with
      | true =>
        rw [if_pos rfl] at hu
        rw [k3 u fun t' ht' => hu t' (List.mem_cons_of_mem _ ht'), g3 u (hu t (List.mem_cons_self ..))]
      | false =>
        rw [k3 u (by simpa using hu), g4 rfl]
    · cases c with
      | true => cases hl
      | false => rw [k4 (by simpa using hl), g4 rfl]
    · cases c with
      | true =>
        rcases List.mem_cons.1 (by simpa using ht') with rfl | h5
        · exact List.mem_cons_self ..
        · exact List.mem_cons_of_mem _ (k5 t' h5)
      | false => exact List.mem_cons_of_mem _ (k5 t' (by simpa using ht'))
    · obtain ⟨w, w1, w2⟩ := g5 u d0 v0 hu
      obtain ⟨w', w3, w4⟩ := k6 u d0 w w1
      exact ⟨w', w3, w4.trans w2⟩
theorem mts_le {Y : St} {d : Int} {v : List Bool} : ∀ {ts : List Int} {X : St}, Le X Y → (∀ t ∈ ts, ∃ w, Y[t.toNat]? = some (some (d, w)) ∧ Sub w v) → ∃ X' l, mts d v ts X = some (X', l) ∧ Le X' Y
  | [], X, h, _ => ⟨X, [], rfl, h⟩
  | t :: ts, X, h, hts => by
    obtain ⟨w, w1, w2⟩ := hts t (List.mem_cons_self ..)
    obtain ⟨X1, c, h1, h2⟩ := mt_le h w1 w2
    obtain ⟨X2, l, h3, h4⟩ := mts_le h2 fun t' ht' => hts t' (List.mem_cons_of_mem _ ht')
    exact ⟨X2, _, by rw [mts, h1, obind, h3, obind], h4⟩
theorem step_le {f : Api.Fun} {X Y : St} (hY : Cons f Y) (h : Le X Y) {at1 : Nat} {d : Int} {v : List Bool} (hx : X[at1]? = some (some (d, v))) :
    ∃ d' v' ts X' l, flow f at1 d v = some (d', v', ts) ∧ mts d' v' ts X = some (X', l) ∧ Le X' Y := by
  obtain ⟨w, w1, w2⟩ := h.2 at1 d v hx
  obtain ⟨d', w', ts, h1, h2⟩ := hY.sat at1 d w w1
  obtain ⟨v', h3, h4⟩ := flow_mono w2 h1
  obtain ⟨X', l, h5, h6⟩ := mts_le (v := v') h fun t ht => by
    obtain ⟨u, u1, u2⟩ := h2 t ht
    exact ⟨u, u1, u2.trans h4⟩
  exact ⟨d', v', ts, X', l, h3, h5, h6⟩
def cnt (v : List Bool) : Nat := v.count true
def pot (L : Nat) : St → Nat
  | [] => 0
  | none :: X => L + 1 + pot L X
  | some (_, v) :: X => cnt v + pot L X
theorem cnt_le (v : List Bool) : cnt v ≤ v.length := List.count_le_length
theorem cnt_lt : ∀ {v w : List Bool}, v.length = w.length → both v w ≠ v → cnt (both v w) < cnt v
  | [], [], _, h => (h rfl).elim
  | a :: v, b :: w, hl, h => by
    have hle : cnt (both v w) ≤ cnt v := by
      by_cases e : both v w = v
      · rw [e]; exact Nat.le_refl _
      · exact Nat.le_of_lt (cnt_lt (by simpa using hl) e)
    unfold cnt both at *
    simp only [List.zipWith_cons_cons, List.count_cons] at *
    cases a <;> cases b
    · have := cnt_lt (v := v) (w := w) (by simpa using hl) (fun e => h (by simpa [both] using e))
      unfold cnt both at this; simpa using this
    · have := cnt_lt (v := v) (w := w) (by simpa using hl) (fun e => h (by simpa [both] using e))
      unfold cnt both at this; simpa using this
    · simp; omega
    · have := cnt_lt (v := v) (w := w) (by simpa using hl) (fun e => h (by simpa [both] using e))
      unfold cnt both at this; simp; omega
  | [], _ :: _, h, _ => by simp at h
  | _ :: _, [], h, _ => by simp at h
def w1 (L : Nat) : Option (Int × List Bool) → Nat
  | none => L + 1
  | some (_, v) => cnt v
theorem pot_set (L : Nat) : ∀ {X : St} {t : Nat} {o o' : Option (Int × List Bool)}, X[t]? = some o → pot L (X.set t o') + w1 L o = pot L X + w1 L o'
  | [], t, o, o', h => by simp at h
  | x :: X, 0, o, o', h => by
    simp at h; subst h
    have : ∀ y : Option (Int × List Bool), pot L (y :: X) = w1 L y + pot L X := fun y => by cases y <;> rfl
    rw [List.set_cons_zero, this, this]; omega
  | x :: X, t + 1, o, o', h => by
    have ih := pot_set L (X := X) (t := t) (o := o) (o' := o') (by simpa using h)
    have : ∀ (y : Option (Int × List Bool)) (Z : St), pot L (y :: Z) = w1 L y + pot L Z := fun y Z => by cases y <;> rfl
    rw [List.set_cons_succ, this, this]; omega
theorem mt_pot {f : Api.Fun} {X : St} (hX : Good0 f X) {t : Nat} {d : Int} {v : List Bool} (hv : v.length = f.Locals.toNat) {X' : St} {c : Bool} (h : mt X t d v = some (X', c)) :
    pot f.Locals.toNat X' + (if c then 1 else 0) ≤ pot f.Locals.toNat X := by
  unfold mt at h
  split at h
  · cases h
  · rename_i ht
    simp only [Option.some.injEq, Prod.mk.injEq] at h
    obtain ⟨rfl, rfl⟩ := h
    have := pot_set f.Locals.toNat (o' := some (d, v)) ht
    have h2 := cnt_le v
    simp only [w1] at this
    simp only [if_true]; omega
  · rename_i d0 v0 ht
    have hr := hX.row t d0 v0 ht
    split at h
    · cases h
    · split at h
      · simp only [Option.some.injEq, Prod.mk.injEq] at h
        obtain ⟨rfl, rfl⟩ := h
        simp
      · rename_i hb
        simp only [Option.some.injEq, Prod.mk.injEq] at h
        obtain ⟨rfl, rfl⟩ := h
        have := pot_set f.Locals.toNat (o' := some (d0, both v0 v)) ht
        have h2 := cnt_lt (hr.1.trans hv.symm) hb
        simp only [w1] at this
        simp only [if_true]; omega
theorem mts_pot {f : Api.Fun} {d : Int} {v : List Bool} (hv : v.length = f.Locals.toNat) (hd : 0 ≤ d ∧ d ≤ 4096) : ∀ {ts : List Int} {X X' : St} {l : List Int}, Good0 f X → mts d v ts X = some (X', l) → pot f.Locals.toNat X' + l.length ≤ pot f.Locals.toNat X
  | [], X, X', l, hX, h => by cases h; simp
  | t :: ts, X, X', l, hX, h => by
    rw [mts] at h
    obtain ⟨p, h1, h⟩ := bs h
    obtain ⟨q, h2, h⟩ := bs h
    obtain ⟨X1, c⟩ := p
    obtain ⟨X2, l2⟩ := q
    dsimp only at h h2
    simp only [Option.some.injEq, Prod.mk.injEq] at h
    obtain ⟨rfl, rfl⟩ := h
    have g := (mt_good hX hv hd h1).1
    have e1 := mt_pot hX hv h1
    have e2 := mts_pot hv hd g h2
    cases c
    · simp at e1 ⊢; omega
    · simp at e1 ⊢; omega
end Go.Proofs.Ythbjlmoaceaeeaa
set_option linter.unusedVariables false
set_option linter.unusedSimpArgs false
set_option maxRecDepth 100000
set_option maxHeartbeats 1000000
namespace Go.Proofs.Ythbjlmoaceaeeaa
open Go Go.Abs
theorem rowOf_iff {R : List M.Blk} {k : Nat} {l : List Bool} : M.rowOf R k = some l ↔ R[k]? = some (.r l) := by
  unfold M.rowOf
  constructor
  · intro h
    split at h
    · rename_i l' hk; cases h; exact hk
    · cases h
  · intro h; rw [h]
theorem rowOf_app {R : List M.Blk} {k : Nat} {l : List Bool} (h : M.rowOf R k = some l) (b : List M.Blk) : M.rowOf (R ++ b) k = some l := by
  rw [rowOf_iff] at h ⊢
  rw [List.getElem?_append_left (List.getElem?_eq_some_iff.1 h).1]; exact h
theorem rowOf_new (R : List M.Blk) (l : List Bool) : M.rowOf (R ++ [.r l]) R.length = some l := by rw [rowOf_iff]; simp
theorem rowOf_set {R : List M.Blk} {k j : Nat} {l x : List Bool} (h : M.rowOf R j = some l) (hne : j ≠ k) : M.rowOf (R.set k (.r x)) j = some l := by
  rw [rowOf_iff] at h ⊢
  rw [List.getElem?_set_ne (Ne.symm hne)]; exact h
theorem rowOf_set_self {R : List M.Blk} {k : Nat} {l x : List Bool} (h : M.rowOf R k = some l) : M.rowOf (R.set k (.r x)) k = some x := by
  rw [rowOf_iff] at h ⊢
  exact List.getElem?_set_self (List.getElem?_eq_some_iff.1 h).1
def bothF (i : Nat) (c v : List Bool) : List Bool := c.take i ++ both (c.drop i) (v.drop i)
theorem bothF_step {i : Nat} {c v : List Bool} {x y : Bool} (hc : c[i]? = some x) (hv : v[i]? = some y) : bothF i c v = c.take i ++ (x && y) :: both (c.drop (i + 1)) (v.drop (i + 1)) := by
  obtain ⟨h1, e1⟩ := List.getElem?_eq_some_iff.1 hc
  obtain ⟨h2, e2⟩ := List.getElem?_eq_some_iff.1 hv
  unfold bothF both
  rw [List.drop_eq_getElem_cons h1, List.drop_eq_getElem_cons h2, List.zipWith_cons_cons, e1, e2]
theorem bothF_next {i : Nat} {c v : List Bool} {x : Bool} (hc : c[i]? = some x) : bothF (i + 1) c v = c.take i ++ x :: both (c.drop (i + 1)) (v.drop (i + 1)) := by
  unfold bothF
  rw [List.take_add_one, hc]; simp
theorem bothF_eq {i : Nat} {c v : List Bool} {x y : Bool} (hc : c[i]? = some x) (hv : v[i]? = some y) (h : (x && !y) = false) : bothF i c v = bothF (i + 1) c v := by
  rw [bothF_step hc hv, bothF_next hc]
  cases x <;> cases y <;> simp_all
theorem bothF_set {i : Nat} {c v : List Bool} (hc : c[i]? = some true) (hv : v[i]? = some false) : bothF i c v = bothF (i + 1) (c.set i false) v := by
  have h1 := (List.getElem?_eq_some_iff.1 hc).1
  rw [bothF_step hc hv, bothF_next (x := false) (by rw [List.getElem?_set_self h1]), List.take_set_of_le (Nat.le_refl _), List.drop_set_of_lt (by omega)]
  simp
theorem bothF_end {c v : List Bool} {i : Nat} (h : c.length ≤ i) : bothF i c v = c := by
  unfold bothF both
  rw [List.take_of_length_le h, List.drop_eq_nil_of_le h]; simp
theorem bothF_ne {i : Nat} {c v : List Bool} (hc : c[i]? = some true) (hv : v[i]? = some false) : bothF i c v ≠ c := fun e => by
  have h1 := (List.getElem?_eq_some_iff.1 hc).1
  rw [bothF_step hc hv] at e
  have e2 : (c.take i ++ (true && false) :: both (c.drop (i + 1)) (v.drop (i + 1)))[i]? = c[i]? := by rw [e]
  rw [List.getElem?_append_right (by rw [List.length_take]; omega), List.length_take, show i - min i c.length = 0 by omega] at e2
  rw [hc] at e2; simp at e2
theorem bothF_sub {i : Nat} {c v : List Bool} (h : c.length = v.length) : (bothF i c v).length = c.length ∧ Sub (bothF i c v) c := by
  have hl : (bothF i c v).length = c.length := by
    unfold bothF both
    rw [List.length_append, List.length_take, List.length_zipWith, List.length_drop, List.length_drop]; omega
  refine ⟨hl, hl, fun k hk => ?_⟩
  unfold bothF at hk
  rw [List.getElem?_append] at hk
  split at hk
  · rw [List.getElem?_take] at hk
    split at hk
    · exact hk
    · cases hk
  · rename_i h1
    rw [List.length_take] at h1 hk
    have h2 := ((both_get (by simp [h]) _).1 hk).1
    rw [List.getElem?_drop] at h2
    have h3 := (List.getElem?_eq_some_iff.1 h2).1
    rwa [show i + (k - min i c.length) = k by omega] at h2
theorem meetL_ne {set k : Nat} (hne : set ≠ k) {v : List Bool} : ∀ (n i : Nat) (R : List M.Blk) (c : List Bool) (ch : Bool), M.rowOf R k = some c → M.rowOf R set = some v → c.length = v.length → i + n = c.length →
    ∃ R', M.verify_meet_l set k n i R ch = some (R', ch || decide (bothF i c v ≠ c)) ∧ M.rowOf R' k = some (bothF i c v) ∧ R'.length = R.length ∧ ∀ j l, j ≠ k → M.rowOf R j = some l → M.rowOf R' j = some l
  | 0, i, R, c, ch, h1, h2, h3, hi => by
    rw [M.verify_meet_l, bothF_end (by omega)]
    exact ⟨R, by simp, h1, rfl, fun j l _ h => h⟩
  | n + 1, i, R, c, ch, h1, h2, h3, hi => by
    have hx : c[i]? = some c[i] := List.getElem?_eq_getElem (by omega)
    have hy : v[i]? = some v[i] := List.getElem?_eq_getElem (by omega)
    rw [M.verify_meet_l, h1, obind, hx, obind]
    cases hc : c[i] with
    | false =>
      rw [hc] at hx
      obtain ⟨R', r1, r2, r3, r4⟩ := meetL_ne hne n (i + 1) R c ch h1 h2 h3 (by omega)
      rw [bothF_eq hx hy (by simp)]
      exact ⟨R', by simpa using r1, r2, r3, r4⟩
    | true =>
      rw [hc] at hx
      rw [if_pos rfl, h2, obind, hy, obind]
      cases hv : v[i] with
      | true =>
        rw [hv] at hy
        obtain ⟨R', r1, r2, r3, r4⟩ := meetL_ne hne n (i + 1) R c ch h1 h2 h3 (by omega)
        rw [bothF_eq hx hy (by simp)]
        exact ⟨R', by simpa using r1, r2, r3, r4⟩
      | false =>
        rw [hv] at hy
        obtain ⟨R', r1, r2, r3, r4⟩ := meetL_ne hne n (i + 1) (R.set k (.r (c.set i false))) (c.set i false) true (rowOf_set_self h1) (rowOf_set h2 hne) (by simpa using h3) (by simpa using (show i + 1 + n = c.length by omega))
        rw [bothF_set hx hy]
        refine ⟨R', ?_, r2, by simpa using r3, fun j l hj hl => r4 j l hj (rowOf_set hl hj)⟩
        have : bothF (i + 1) (c.set i false) v ≠ c := by rw [← bothF_set hx hy]; exact bothF_ne hx hy
        simpa [this] using r1
theorem meetL_eq {k : Nat} {c : List Bool} : ∀ (n i : Nat) (R : List M.Blk) (ch : Bool), M.rowOf R k = some c → i + n = c.length → M.verify_meet_l k k n i R ch = some (R, ch)
  | 0, i, R, ch, h1, hi => by rw [M.verify_meet_l]
  | n + 1, i, R, ch, h1, hi => by
    have hx : c[i]? = some c[i] := List.getElem?_eq_getElem (by omega)
    rw [M.verify_meet_l, h1, obind, hx, obind, obind, hx, obind]
    have ih := meetL_eq n (i + 1) R ch h1 (by omega)
    cases c[i]
    · simpa using ih
    · simpa using ih
structure Rl (f : Api.Fun) (s : M.VS) (X : St) : Prop where
  hf : s.f = f
  dl : s.D.length = f.Code.length
  sl : s.S.length = f.Code.length
  rel : ∀ t : Nat, t < f.Code.length → (X[t]? = some none ∧ s.D[t]? = some (-1) ∧ s.S[t]? = some none) ∨
    (∃ (d : Int) (r : List Bool) (k : Nat), X[t]? = some (some (d, r)) ∧ s.D[t]? = some d ∧ 0 ≤ d ∧ s.S[t]? = some (some k) ∧ M.rowOf s.R k = some r)
  inj : ∀ (t u k : Nat), s.S[t]? = some (some k) → s.S[u]? = some (some k) → t = u
theorem ixC_some {α : Type} {l : List α} {n : Int} (h : 0 ≤ n ∧ n < l.length) : ixC l n = some () := by rw [ixC, if_pos h]
theorem clC_some {α : Type} {b : Nat} {l : List α} (h : 0 < l.length ∧ 0 < b ∧ l.length * b ≤ 140737488355328) : clC b l = some l := by rw [clC, if_pos h]
theorem meet_rel {f : Api.Fun} (hL : 1 ≤ f.Locals ∧ f.Locals ≤ 4096) {s : M.VS} {X : St} (hR : Rl f s X) (hX : Good0 f X) {t : Int} (ht : 0 ≤ t ∧ t < f.Code.length) {set : Nat} {v : List Bool} (hv : M.rowOf s.R set = some v) (hvl : v.length = f.Locals.toNat)
    {d : Int} (hd : 0 ≤ d) (hq : s.Q.length ≤ 100000000) :
    (mt X t.toNat d v = none → M.verify_meet f.Locals.toNat s t d set = some (false, s)) ∧
    (∀ X' c, mt X t.toNat d v = some (X', c) → ∃ s', M.verify_meet f.Locals.toNat s t d set = some (true, s') ∧ Rl f s' X' ∧ M.rowOf s'.R set = some v ∧ s'.Q = (if c then s.Q ++ [t] else s.Q)) := by
  obtain ⟨j, rfl⟩ : ∃ j : Nat, t = j := ⟨t.toNat, by omega⟩
  have hj : j < f.Code.length := by omega
  simp only [Int.toNat_natCast]
  rw [M.verify_meet, ixC_some (by rw [hR.dl]; omega)]
  simp only [obind, Int.toNat_natCast]
  have happ : app 8 s.Q [(j : Int)] = some (s.Q ++ [(j : Int)]) := app_some (by decide) (by simp; omega)
  rcases hR.rel j hj with ⟨x1, x2, x3⟩ | ⟨d0, r, k, x1, x2, x3, x4, x5⟩
  · have em : mt X j d v = some (X.set j (some (d, v)), true) := by unfold mt; rw [x1]
    refine ⟨fun h => absurd (em.symm.trans h) (by simp), fun X' c h => ?_⟩
    rw [em] at h
    simp only [Option.some.injEq, Prod.mk.injEq] at h
    obtain ⟨rfl, rfl⟩ := h
    rw [x2, obind, ltI_t (by omega), if_pos rfl, ixC_some (by rw [hR.sl]; omega), obind, hv, obind, clC_some ⟨by omega, by decide, by omega⟩, obind, lenN, if_pos hvl, obind, happ, obind]
    refine ⟨_, rfl, ⟨hR.hf, by simp [hR.dl], by simp [hR.sl], fun u hu => ?_, fun a b k' ha hb => ?_⟩, rowOf_app hv _, rfl⟩
    · by_cases e : u = j
      · subst e
        have hx : u < X.length := (List.getElem?_eq_some_iff.1 x1).1
        refine .inr ⟨d, v, s.R.length, List.getElem?_set_self hx, List.getElem?_set_self (by rw [hR.dl]; exact hj), hd, List.getElem?_set_self (by rw [hR.sl]; exact hj), rowOf_new _ _⟩
      · rcases hR.rel u hu with ⟨y1, y2, y3⟩ | ⟨d1, r1, k1, y1, y2, y3, y4, y5⟩
        · exact .inl ⟨by rw [List.getElem?_set_ne (Ne.symm e)]; exact y1, by show (s.D.set j d)[u]? = _; rw [List.getElem?_set_ne (Ne.symm e)]; exact y2, by show (s.S.set j _)[u]? = _; rw [List.getElem?_set_ne (Ne.symm e)]; exact y3⟩
        · exact .inr ⟨d1, r1, k1, by rw [List.getElem?_set_ne (Ne.symm e)]; exact y1, by show (s.D.set j d)[u]? = _; rw [List.getElem?_set_ne (Ne.symm e)]; exact y2, y3, by show (s.S.set j _)[u]? = _; rw [List.getElem?_set_ne (Ne.symm e)]; exact y4, rowOf_app y5 _⟩
    · have old : ∀ u k, s.S[u]? = some (some k) → k < s.R.length := fun u k h => by
        have hu : u < f.Code.length := by have := (List.getElem?_eq_some_iff.1 h).1; rw [hR.sl] at this; exact this
        rcases hR.rel u hu with ⟨_, _, y3⟩ | ⟨d1, r1, k1, y1, y2, y3, y4, y5⟩
        · rw [h] at y3; cases y3
        · rw [h] at y4; cases y4
          rw [rowOf_iff] at y5; exact (List.getElem?_eq_some_iff.1 y5).1
      have ha' : (s.S.set j (some s.R.length))[a]? = some (some k') := ha
      have hb' : (s.S.set j (some s.R.length))[b]? = some (some k') := hb
      rcases set_get ha' with ⟨e1, e2⟩ | ⟨e1, e2⟩ <;> rcases set_get hb' with ⟨e3, e4⟩ | ⟨e3, e4⟩
      · rw [e1, e3]
      · simp only [Option.some.injEq] at e2; have := old _ _ e4; omega
      · simp only [Option.some.injEq] at e4; have := old _ _ e2; omega
      · exact hR.inj a b k' e2 e4
  · have hr := hX.row j d0 r x1
    rw [x2, obind, ltI_f (by omega), if_neg (by simp)]
    unfold mt
    rw [x1]
    dsimp only
    by_cases hdd : d0 = d
    case neg =>
      rw [if_pos hdd, eqI_f hdd]
      refine ⟨fun _ => rfl, fun X' c h => ?_⟩
      cases h
    subst hdd
    rw [eqI_t rfl, if_neg (show ¬ (d0 ≠ d0) by simp)]
    simp only [Bool.not_true, Bool.false_eq_true, if_false]
    rw [ixC_some (by rw [hR.sl]; omega)]
    simp only [obind, x4]
    by_cases hk : set = k
    · subst hk
      rw [hv] at x5
      cases x5
      rw [meetL_eq (c := v) _ 0 s.R false hv (by omega)]
      simp only [obind, Bool.false_eq_true, if_false]
      rw [if_pos (both_self v)]
      refine ⟨fun h => absurd h (by simp), fun X' c h => ?_⟩
      simp only [Option.some.injEq, Prod.mk.injEq] at h
      obtain ⟨rfl, rfl⟩ := h
      exact ⟨_, rfl, hR, hv, rfl⟩
    · obtain ⟨R', r1, r2, r3, r4⟩ := meetL_ne hk f.Locals.toNat 0 s.R r false x5 hv (by omega) (by omega)
      have e0 : bothF 0 r v = both r v := by unfold bothF; simp
      rw [e0] at r1 r2
      rw [r1]
      simp only [obind, Bool.false_or]
      have hrel : ∀ X' : St, X'[j]? = some (some (d0, both r v)) → (∀ u, u ≠ j → X'[u]? = X[u]?) → ∀ q, Rl f ⟨s.f, s.D, s.S, R', q⟩ X' := fun X' g1 g2 q =>
        ⟨hR.hf, hR.dl, hR.sl, fun u hu => by
          by_cases e : u = j
          · subst e
            exact .inr ⟨d0, both r v, k, g1, x2, x3, x4, r2⟩
          · rcases hR.rel u hu with ⟨y1, y2, y3⟩ | ⟨d1, q1, k1, y1, y2, y3, y4, y5⟩
            · exact .inl ⟨by rw [g2 u e]; exact y1, y2, y3⟩
            · refine .inr ⟨d1, q1, k1, by rw [g2 u e]; exact y1, y2, y3, y4, r4 k1 q1 (fun e2 => ?_) y5⟩
              subst e2
              exact e (hR.inj u j k1 y4 x4), hR.inj⟩
      by_cases hb : both r v = r
      · rw [if_pos hb]
        refine ⟨fun h => absurd h (by simp), fun X' c h => ?_⟩
        simp only [Option.some.injEq, Prod.mk.injEq] at h
        obtain ⟨rfl, rfl⟩ := h
        rw [if_neg (by simp [hb])]
        exact ⟨_, rfl, hrel X (by rw [hb]; exact x1) (fun _ _ => rfl) _, r4 set v hk hv, rfl⟩
      · rw [if_neg hb]
        refine ⟨fun h => absurd h (by simp), fun X' c h => ?_⟩
        simp only [Option.some.injEq, Prod.mk.injEq] at h
        obtain ⟨rfl, rfl⟩ := h
        rw [if_pos (by simp [hb]), happ, obind]
        have hx : j < X.length := (List.getElem?_eq_some_iff.1 x1).1
        exact ⟨_, rfl, hrel _ (List.getElem?_set_self hx) (fun u hu => List.getElem?_set_ne (Ne.symm hu)) _, r4 set v hk hv, rfl⟩
theorem visit_l_rel {f : Api.Fun} (hL : 1 ≤ f.Locals ∧ f.Locals ≤ 4096) {set : Nat} {v : List Bool} (hvl : v.length = f.Locals.toNat) {d : Int} (hd : 0 ≤ d ∧ d ≤ 4096) : ∀ {ts : List Int} {s : M.VS} {X : St}, Rl f s X → Good0 f X →
    (∀ t ∈ ts, 0 ≤ t ∧ t < f.Code.length) → M.rowOf s.R set = some v → s.Q.length + ts.length ≤ 100000000 →
    (mts d v ts X = none → ∃ s', M.verify_visit_l f.Locals.toNat d set ts s = some (false, s')) ∧
    (∀ X' l, mts d v ts X = some (X', l) → ∃ s', M.verify_visit_l f.Locals.toNat d set ts s = some (true, s') ∧ Rl f s' X' ∧ s'.Q = s.Q ++ l)
  | [], s, X, hR, hX, ht, hv, hq => by
    refine ⟨fun h => (by (rw [mts] at h; cases h)), fun X' l h => ?_⟩
    rw [mts] at h
    cases h
    exact ⟨s, rfl, hR, by simp⟩
  | t :: ts, s, X, hR, hX, ht, hv, hq => by
    obtain ⟨m1, m2⟩ := meet_rel hL hR hX (ht t (List.mem_cons_self ..)) hv hvl hd.1 (by simp at hq; omega)
    rw [mts, M.verify_visit_l]
    cases hm : mt X t.toNat d v with
    | none =>
      rw [m1 hm]
      exact ⟨fun _ => ⟨s, rfl⟩, nofun⟩
    | some p =>
      obtain ⟨X1, c⟩ := p
      obtain ⟨s1, e1, r1, v1, q1⟩ := m2 X1 c hm
      have g1 := (mt_good hX hvl hd hm).1
      have hq1 : s1.Q.length + ts.length ≤ 100000000 := by
        rw [q1]; simp at hq
        split
        · simp; omega
        · omega
      obtain ⟨k1, k2⟩ := visit_l_rel hL hvl hd (ts := ts) r1 g1 (fun t' ht' => ht t' (List.mem_cons_of_mem _ ht')) v1 hq1
      rw [e1]
      simp only [obind, Bool.not_true, Bool.false_eq_true, if_false]
      cases hm2 : mts d v ts X1 with
      | none => exact ⟨fun _ => k1 hm2, nofun⟩
      | some p2 =>
        obtain ⟨X2, l2⟩ := p2
        refine ⟨nofun, fun X' l h => ?_⟩
        simp only [obind, Option.some.injEq, Prod.mk.injEq] at h
        obtain ⟨rfl, rfl⟩ := h
        obtain ⟨s2, e2, r2, q2⟩ := k2 _ _ hm2
        refine ⟨s2, e2, r2, ?_⟩
        rw [q2, q1]
        cases c <;> simp
theorem rightS_A {p : Api.Program} {f : Api.Fun} {at1 : Nat} {x : Api.Instr} (h : rightS p f at1 x = true) (ho : x.Op = 3 ∨ x.Op = 4 ∨ x.Op = 13) : 0 ≤ x.A ∧ x.A < f.Locals := by
  obtain ⟨op, a, b⟩ := x
  dsimp only at ho
  have key : inn a 0 (f.Locals - 1) = true := by
    cases hi : inn a 0 (f.Locals - 1) with
    | true => rfl
    | false =>
      exfalso
      rw [rightS] at h
      rcases ho with rfl | rfl | rfl
      · by_cases hb : b = 0 <;> simp [hb, hi] at h
      · by_cases hb : b = 0 <;> simp [hb, hi] at h
      · simp [hi] at h
  have := inn_iff.1 key
  dsimp only
  omega
structure FunOk (p : Api.Program) (f : Api.Fun) : Prop where
  head : HeadOk f
  right : ∀ (at1 : Nat) (x : Api.Instr), f.Code[at1]? = some x → rightS p f at1 x = true
theorem tgt_len {f : Api.Fun} {at1 : Nat} {x : Api.Instr} : (tgt f at1 x).1.length ≤ 1000 := by
  unfold tgt
  split
  · simp
  · split
    · simp
    · cases hg : goL at1 x with
      | none => simp
      | some l =>
        have hl : l.length ≤ 1000 := by
          unfold goL at hg
          split at hg
          · cases hg; simp
          · split at hg
            · split at hg
              · rename_i hb
                have := inn_iff.1 hb
                cases hg; rw [upL_len]; omega
              · cases hg
            · cases hg; simp
        dsimp only
        split
        · exact hl
        · simp
theorem visit_rel {p : Api.Program} {f : Api.Fun} (hF : FunOk p f) {fuel : Nat} (hfu : 20000 ≤ fuel) {s : M.VS} {X : St} (hR : Rl f s X) (hX : Good0 f X) {at1 : Nat} {d : Int} {v : List Bool} (hx : X[at1]? = some (some (d, v))) (hq : s.Q.length + 1000 ≤ 100000000) :
    (flow f at1 d v = none → ∃ s', M.verify_visit fuel f.Locals.toNat s (at1 : Int) = some (false, s')) ∧
    (∀ d' v' ts, flow f at1 d v = some (d', v', ts) →
      (mts d' v' ts X = none → ∃ s', M.verify_visit fuel f.Locals.toNat s (at1 : Int) = some (false, s')) ∧
      (∀ X' l, mts d' v' ts X = some (X', l) → ∃ s', M.verify_visit fuel f.Locals.toNat s (at1 : Int) = some (true, s') ∧ Rl f s' X' ∧ s'.Q = s.Q ++ l)) := by
  have hat : at1 < f.Code.length := by rw [← hX.len]; exact (List.getElem?_eq_some_iff.1 hx).1
  have hh := hF.head
  have h1 := hh.l0; have h2 := hh.l1; have h3 := hh.n1; have h4 := hh.d0; have h5 := hh.d1
  obtain ⟨x, hi, _, _⟩ := drop_split (s := f.Code) (i := at1) hat
  have hxr := hF.right at1 x hi
  rcases hR.rel at1 hat with ⟨x1, x2, x3⟩ | ⟨d0, r, k, x1, x2, x3, x4, x5⟩
  · rw [hx] at x1; cases x1
  rw [hx] at x1
  simp only [Option.some.injEq, Prod.mk.injEq] at x1
  obtain ⟨rfl, rfl⟩ := x1
  have hrow := hX.row at1 d v hx
  have hidx : idx s.f.Code (at1 : Int) = some x := idx_some (by omega) (by rw [hR.hf]; simpa using hi)
  unfold M.verify_visit
  rw [hidx, ixC_some (by rw [hR.dl]; omega)]
  simp only [obind, Int.toNat_natCast, x2, effect_M, hR.hf, targets_M h3 hi hfu]
  unfold flow
  rw [hi]
  dsimp only
  by_cases c1 : (eff x).2.2 ≠ 0
  · rw [if_pos (Or.inl c1), eqI_f c1]
    exact ⟨fun _ => ⟨_, rfl⟩, nofun⟩
  have c1 : (eff x).2.2 = 0 := Decidable.byContradiction c1
  have he := eff_ok c1
  rw [eqI_t c1]
  by_cases c2 : d < (eff x).1
  · rw [if_pos (Or.inr (Or.inl c2)), ltI_t c2]
    exact ⟨fun _ => ⟨_, rfl⟩, nofun⟩
  rw [ltI_f (by omega)]
  by_cases c3 : x.Op = 9 ∧ d ≠ 1
  · rw [if_pos (Or.inr (Or.inr (Or.inl c3))), eqI_t c3.1, eqI_f c3.2]
    exact ⟨fun _ => ⟨_, rfl⟩, nofun⟩
  have e3 : ((eqI x.Op 9) && (!(eqI d 1))) = false := by
    by_cases e : x.Op = 9
    · have : d = 1 := Decidable.byContradiction fun h => c3 ⟨e, h⟩
      rw [eqI_t this]; simp
    · rw [eqI_f e]; rfl
  rw [e3]
  simp only [Bool.not_true, Bool.or_self, Bool.false_eq_true, if_false]
  rw [chk64 (by omega) (by omega), obind, chk64 (by omega) (by omega), obind]
  by_cases c4 : f.Depth < d - (eff x).1 + (eff x).2.1
  · rw [if_pos (Or.inr (Or.inr (Or.inr (Or.inl c4)))), ltI_t c4, if_pos rfl, obind]
    exact ⟨fun _ => ⟨_, rfl⟩, nofun⟩
  rw [ltI_f (by omega)]
  simp only [Bool.false_eq_true, if_false]
  have hloc : ∃ b, (if eqI x.Op 3 = true then (ixC s.S (at1 : Int)).bind fun _ => (s.S[at1]?).bind fun o => o.bind fun k => (ltC x.A f.Locals.toNat).bind fun _ => (M.rowOf s.R k).bind fun r => (r[x.A.toNat]?).bind fun x => some (!x) else some false : Option Bool) = some b ∧ (b = true ↔ x.Op = 3 ∧ v[x.A.toNat]? ≠ some true) := by
    by_cases e : x.Op = 3
    · have hA := rightS_A hxr (.inl e)
      have hv : v[x.A.toNat]? = some v[x.A.toNat] := List.getElem?_eq_getElem (by omega)
      rw [eqI_t e, if_pos rfl, ixC_some (by rw [hR.sl]; omega), obind, x4, obind, obind, ltC, if_pos (by omega), obind, x5, obind, hv, obind]
      refine ⟨_, rfl, ?_⟩
      cases v[x.A.toNat] <;> simp [e]
    · rw [eqI_f e]
      exact ⟨false, rfl, by simp [e]⟩
  obtain ⟨b, hb1, hb2⟩ := hloc
  rw [hb1, obind]
  by_cases c5 : x.Op = 3 ∧ v[x.A.toNat]? ≠ some true
  · rw [if_pos (Or.inr (Or.inr (Or.inr (Or.inr (Or.inl c5))))), hb2.2 c5, if_pos rfl]
    exact ⟨fun _ => ⟨_, rfl⟩, nofun⟩
  have hb : b = false := by cases b with | false => rfl | true => exact (c5 (hb2.1 rfl)).elim
  rw [hb]
  simp only [Bool.false_eq_true, if_false]
  by_cases c6 : (tgt f at1 x).2 ≠ 0
  · rw [if_pos (Or.inr (Or.inr (Or.inr (Or.inr (Or.inr c6))))), eqI_f c6]
    exact ⟨fun _ => ⟨_, rfl⟩, nofun⟩
  have c6 : (tgt f at1 x).2 = 0 := Decidable.byContradiction c6
  rw [if_neg (by simp only [not_or]; exact ⟨by simp [c1], c2, c3, c4, c5, by simp [c6]⟩), eqI_t c6]
  simp only [Bool.not_true, Bool.false_eq_true, if_false]
  rw [ixC_some (by rw [hR.sl]; omega)]
  simp only [obind, x4]
  refine ⟨nofun, fun d' v' ts h => ?_⟩
  simp only [Option.some.injEq, Prod.mk.injEq] at h
  obtain ⟨rfl, rfl, rfl⟩ := h
  have hd' : 0 ≤ d - (eff x).1 + (eff x).2.1 ∧ d - (eff x).1 + (eff x).2.1 ≤ 4096 := by omega
  have hadd : ∀ (s1 : M.VS), s1.f = s.f → s1.D = s.D → s1.S = s.S → (∃ b, s1.R = s.R ++ b) → Rl f s1 X := fun s1 a1 a2 a3 a4 => by
    obtain ⟨bb, a4⟩ := a4
    refine ⟨a1.trans hR.hf, by rw [a2]; exact hR.dl, by rw [a3]; exact hR.sl, fun u hu => ?_, by rw [a3]; exact hR.inj⟩
    rcases hR.rel u hu with ⟨y1, y2, y3⟩ | ⟨d1, r1, k1, y1, y2, y3, y4, y5⟩
    · exact .inl ⟨y1, by rw [a2]; exact y2, by rw [a3]; exact y3⟩
    · exact .inr ⟨d1, r1, k1, y1, by rw [a2]; exact y2, y3, by rw [a3]; exact y4, by rw [a4]; exact rowOf_app y5 _⟩
  have htl := tgt_len (f := f) (at1 := at1) (x := x)
  by_cases c7 : x.Op = 4 ∨ x.Op = 13
  · have hA := rightS_A hxr (.inr c7)
    have e7 : ((eqI x.Op 4) || (eqI x.Op 13)) = true := by rcases c7 with c7 | c7 <;> rw [eqI_t c7] <;> simp
    rw [e7, if_pos rfl, x5, obind, clC_some ⟨by omega, by decide, by omega⟩, obind, lenN, if_pos hrow.1, obind, ixC_some ⟨hA.1, by omega⟩, obind, if_pos c7]
    refine visit_l_rel ⟨h1, h2⟩ (by simpa using hrow.1) hd' (hadd _ rfl rfl rfl ⟨[.i x, .r (v.set x.A.toNat true)], by simp [M.VS.add]⟩) hX (tgt_in c6) ?_ (by show s.Q.length + _ ≤ _; omega)
    have : (s.add (.i x)).R.length = s.R.length + 1 := by simp [M.VS.add]
    have h8 := rowOf_new (s.add (.i x)).R (v.set x.A.toNat true)
    rw [this] at h8
    exact h8
  · have e7 : ((eqI x.Op 4) || (eqI x.Op 13)) = false := by rw [eqI_f (fun e => c7 (.inl e)), eqI_f (fun e => c7 (.inr e))]; rfl
    rw [e7, if_neg c7]
    simp only [Bool.false_eq_true, if_false]
    exact visit_l_rel ⟨h1, h2⟩ hrow.1 hd' (hadd _ rfl rfl rfl ⟨[.i x], by simp [M.VS.add]⟩) hX (tgt_in c6) (rowOf_app x5 _) (by show s.Q.length + _ ≤ _; omega)
end Go.Proofs.Ythbjlmoaceaeeaa
set_option linter.unusedVariables false
set_option linter.unusedSimpArgs false
set_option maxRecDepth 100000
set_option maxHeartbeats 1000000
namespace Go.Proofs.Ythbjlmoaceaeeaa
open Go Go.Abs
theorem pot_rep (L n : Nat) : pot L (List.replicate n none) = n * (L + 1) := by
  induction n with
  | zero => simp [pot]
  | succ n ih => rw [List.replicate_succ, pot, ih, Nat.succ_mul]; omega
structure WInv (f : Api.Fun) (s : M.VS) (X : St) : Prop where
  rl : Rl f s X
  good : Good0 f X
  start : ∃ v, X[0]? = some (some (0, v)) ∧ Sub v (first f)
  qok : ∀ q ∈ s.Q, 0 ≤ q ∧ ∃ d v, X[q.toNat]? = some (some (d, v))
  sat : ∀ at1 : Nat, (at1 : Int) ∉ s.Q → Sat f X at1
  least : ∀ Y, Cons f Y → Le X Y
theorem analyze_l_rel {p : Api.Program} {f : Api.Fun} (hF : FunOk p f) {fuel : Nat} (hfu : 20000 ≤ fuel) : ∀ (n : Nat) (s : M.VS) (X : St), WInv f s X → pot f.Locals.toNat X + s.Q.length < n → pot f.Locals.toNat X + s.Q.length ≤ 90000000 →
    ∃ b s', M.verify_analyze_l fuel f.Locals.toNat n s = some (b, s') ∧ (b = true → ∃ X', Least f X' ∧ Rl f s' X') ∧ (b = false → ∀ Y, ¬ Cons f Y)
  | 0, s, X, hI, hn, hb => by omega
  | n + 1, s, X, hI, hn, hb => by
    obtain ⟨sf, sD, sS, sR, sQ⟩ := s
    rw [M.verify_analyze_l]
    cases sQ with
    | nil =>
      refine ⟨true, _, rfl, fun _ => ⟨X, ⟨⟨hI.good, hI.start, fun at1 => hI.sat at1 (by simp)⟩, hI.least⟩, hI.rl⟩, nofun⟩
    | cons q qs =>
      obtain ⟨hq0, d, v, hx⟩ := hI.qok q (List.mem_cons_self ..)
      have hrl : Rl f ⟨sf, sD, sS, sR, qs⟩ X := ⟨hI.rl.hf, hI.rl.dl, hI.rl.sl, hI.rl.rel, hI.rl.inj⟩
      dsimp only at hn hb ⊢
      simp only [List.length_cons] at hn hb
      obtain ⟨v1, v2⟩ := visit_rel hF hfu hrl hI.good hx (by show qs.length + 1000 ≤ _; omega)
      rw [show ((q.toNat : Nat) : Int) = q by omega] at v1 v2
      have fail : (∃ s', M.verify_visit fuel f.Locals.toNat ⟨sf, sD, sS, sR, qs⟩ q = some (false, s')) → (∀ Y, ¬ Cons f Y) →
          ∃ b s', ((M.verify_visit fuel f.Locals.toNat ⟨sf, sD, sS, sR, qs⟩ q).bind fun p => if (!p.1) = true then some (false, p.2) else M.verify_analyze_l fuel f.Locals.toNat n p.2) = some (b, s') ∧ (b = true → ∃ X', Least f X' ∧ Rl f s' X') ∧ (b = false → ∀ Y, ¬ Cons f Y) := by
        rintro ⟨s', h1⟩ h2
        rw [h1]
        exact ⟨false, s', rfl, nofun, fun _ => h2⟩
      cases hf : flow f q.toNat d v with
      | none =>
        refine fail (v1 hf) fun Y hY => ?_
        obtain ⟨d', v', ts, X', l, h1, _⟩ := step_le hY (hI.least Y hY) hx
        rw [hf] at h1; cases h1
      | some r =>
        obtain ⟨d', v', ts⟩ := r
        obtain ⟨w1, w2⟩ := v2 d' v' ts hf
        cases hm : mts d' v' ts X with
        | none =>
          refine fail (w1 hm) fun Y hY => ?_
          obtain ⟨d2, v2, ts2, X', l, h1, h2, _⟩ := step_le hY (hI.least Y hY) hx
          rw [hf] at h1
          simp only [Option.some.injEq, Prod.mk.injEq] at h1
          obtain ⟨rfl, rfl, rfl⟩ := h1
          rw [hm] at h2; cases h2
        | some r2 =>
          obtain ⟨X', l⟩ := r2
          obtain ⟨s', e1, e2, e3⟩ := w2 X' l hm
          obtain ⟨fl1, fl2, fl3, fl4, fl5⟩ := flow_len hf
          have hrow := hI.good.row _ d v hx
          have hv' : v'.length = f.Locals.toNat := fl1.trans hrow.1
          have hd' : 0 ≤ d' ∧ d' ≤ 4096 := ⟨fl3, Int.le_trans fl4 hF.head.d1⟩
          obtain ⟨g1, g2, g3, g4, g5, g6⟩ := mts_good hv' hd' hI.good hm
          have hp := mts_pot hv' hd' hI.good hm
          rw [e1]
          simp only [obind, Bool.not_true, Bool.false_eq_true, if_false]
          have e3' : s'.Q = qs ++ l := e3
          refine analyze_l_rel hF hfu n s' X' ⟨e2, g1, ?_, fun q' hq' => ?_, fun at1 hat => ?_, fun Y hY => ?_⟩ (by rw [e3', List.length_append]; omega) (by rw [e3', List.length_append]; omega)
          · obtain ⟨v0, s1, s2⟩ := hI.start
            obtain ⟨w, k1, k2⟩ := g6 0 0 v0 s1
            exact ⟨w, k1, k2.trans s2⟩
          · rw [e3', List.mem_append] at hq'
            rcases hq' with hq' | hq'
            · obtain ⟨a1, d1, u1, a2⟩ := hI.qok q' (List.mem_cons_of_mem _ hq')
              obtain ⟨w, k1, _⟩ := g6 _ d1 u1 a2
              exact ⟨a1, d1, w, k1⟩
            · have h1 := g5 q' hq'
              obtain ⟨w, k1, _⟩ := g2 q' h1
              exact ⟨(fl5 q' h1).1, d', w, k1⟩
          · rw [e3', List.mem_append, not_or] at hat
            have hun : X'[at1]? = X[at1]? := g3 at1 fun t ht e => hat.2 (by rw [e, Int.toNat_of_nonneg (fl5 t (g5 t ht)).1]; exact ht)
            intro d1 u1 hu1
            rw [hun] at hu1
            by_cases e : at1 = q.toNat
            · subst e
              rw [hx] at hu1
              simp only [Option.some.injEq, Prod.mk.injEq] at hu1
              obtain ⟨rfl, rfl⟩ := hu1
              exact ⟨d', v', ts, hf, g2⟩
            · obtain ⟨d2, u2, ts2, k1, k2⟩ := hI.sat at1 (by rw [List.mem_cons, not_or]; exact ⟨by omega, hat.1⟩) d1 u1 hu1
              refine ⟨d2, u2, ts2, k1, fun t ht => ?_⟩
              obtain ⟨w, k3, k4⟩ := k2 t ht
              obtain ⟨w', k5, k6⟩ := g6 _ d2 w k3
              exact ⟨w', k5, k6.trans k4⟩
          · obtain ⟨d2, v2, ts2, X2, l2, h1, h2, h3⟩ := step_le hY (hI.least Y hY) hx
            rw [hf] at h1
            simp only [Option.some.injEq, Prod.mk.injEq] at h1
            obtain ⟨rfl, rfl, rfl⟩ := h1
            rw [hm] at h2
            simp only [Option.some.injEq, Prod.mk.injEq] at h2
            obtain ⟨rfl, rfl⟩ := h2
            exact h3
theorem mkL_some {α : Type} {b : Nat} {n : Int} {z : α} (h : 0 ≤ n ∧ 0 < b ∧ (b : Int) * n ≤ 281474976710656 ∧ n ≤ 9223372036854775807) : mkL b n z = some (List.replicate n.toNat z) := by rw [mkL, if_pos h]
def X1 (f : Api.Fun) : St := (List.replicate f.Code.length none).set 0 (some (0, first f))
theorem first_len (f : Api.Fun) : (first f).length = f.Locals.toNat := by simp [first]
theorem X0_good (f : Api.Fun) : Good0 f (List.replicate f.Code.length none) := ⟨by simp, fun t d v h => by
  rw [List.getElem?_replicate] at h; split at h <;> simp at h⟩
theorem X1_mt {f : Api.Fun} (hh : HeadOk f) : mt (List.replicate f.Code.length none) 0 0 (first f) = some (X1 f, true) := by
  have := hh.n0
  unfold mt X1
  rw [List.getElem?_replicate, if_pos (by omega)]
theorem X1_least {f : Api.Fun} (hh : HeadOk f) (Y : St) (hY : Cons f Y) : Le (X1 f) Y := by
  obtain ⟨v, h1, h2⟩ := hY.start
  have h0 : Le (List.replicate f.Code.length none) Y := ⟨by simp [hY.len], fun t d v h => by
    rw [List.getElem?_replicate] at h; split at h <;> simp at h⟩
  obtain ⟨X', c, h3, h4⟩ := mt_le h0 h1 h2
  rw [X1_mt hh] at h3
  simp only [Option.some.injEq, Prod.mk.injEq] at h3
  obtain ⟨rfl, rfl⟩ := h3
  exact h4
theorem X1_pot {f : Api.Fun} (hh : HeadOk f) : pot f.Locals.toNat (X1 f) + 1 ≤ 67125248 := by
  have h1 := mt_pot (X0_good f) (first_len f) (X1_mt hh)
  rw [pot_rep] at h1
  have h2 := hh.n1; have h3 := hh.l1
  have h4 : f.Code.length * (f.Locals.toNat + 1) ≤ 16384 * 4097 := Nat.mul_le_mul h2 (by omega)
  simp only [if_true] at h1
  omega
theorem X1_get {f : Api.Fun} {t : Nat} {d : Int} {v : List Bool} (h : (X1 f)[t]? = some (some (d, v))) : t = 0 ∧ d = 0 ∧ v = first f := by
  rcases set_get h with ⟨rfl, e⟩ | ⟨_, e⟩
  · cases e; exact ⟨rfl, rfl, rfl⟩
  · rw [List.getElem?_replicate] at e; split at e <;> simp at e
theorem analyze_M {p : Api.Program} {f : Api.Fun} (hF : FunOk p f) {fuel : Nat} (hfu : 100000000 ≤ fuel) :
    ∃ b s', M.verify_analyze fuel f = some (b, s') ∧ (b = true → ∃ X', Least f X' ∧ Rl f s' X') ∧ (b = false → ∀ Y, ¬ Cons f Y) := by
  have hh := hF.head
  have h1 := hh.l0; have h2 := hh.l1; have h3 := hh.n1; have h4 := hh.n0
  have hp := X1_pot hh
  rw [M.verify_analyze, mkL_some ⟨by omega, by decide, by omega, by omega⟩, obind, mkL_some ⟨by omega, by decide, by omega, by omega⟩, obind, mkL_some ⟨by omega, by decide, by omega, by omega⟩, obind,
    ixC_some (by simp; omega), obind]
  simp only [Int.toNat_natCast]
  have hR0 : Rl f ⟨f, List.replicate f.Code.length (-1), List.replicate f.Code.length none, [.r ((List.replicate f.Locals.toNat false).set 0 true)], []⟩ (List.replicate f.Code.length none) :=
    ⟨rfl, by simp, by simp, fun t ht => .inl ⟨by simp [ht], by simp [ht], by simp [ht]⟩, fun t u k hk => by
      rw [List.getElem?_replicate] at hk; split at hk <;> simp at hk⟩
  obtain ⟨_, m2⟩ := meet_rel (f := f) ⟨h1, h2⟩ hR0 (X0_good f) (t := 0) ⟨by omega, by omega⟩ (set := 0) (v := first f) rfl (first_len f) (d := 0) (by omega) (by simp)
  obtain ⟨s1, e1, e2, e3, e4⟩ := m2 (X1 f) true (X1_mt hh)
  rw [e1]
  simp only [obind, Bool.not_true, Bool.false_eq_true, if_false]
  have e4' : s1.Q = [0] := e4
  have g := (mt_good (X0_good f) (first_len f) (d := 0) (by omega) (X1_mt hh)).1
  have h0 : (X1 f)[0]? = some (some (0, first f)) := List.getElem?_set_self (by simp; omega)
  refine analyze_l_rel hF (by omega) fuel s1 (X1 f) ⟨e2, g, ⟨first f, h0, Sub.refl _⟩, fun q hq => ?_, fun at1 hat => ?_, X1_least hh⟩ (by rw [e4']; simp; omega) (by rw [e4']; simp; omega)
  · rw [e4'] at hq
    rcases List.mem_singleton.1 hq with rfl
    exact ⟨by omega, 0, first f, h0⟩
  · rw [e4'] at hat
    intro d v hx
    obtain ⟨rfl, _, _⟩ := X1_get hx
    exact (hat (by simp)).elim
end Go.Proofs.Ythbjlmoaceaeeaa
set_option linter.unusedVariables false
set_option linter.unusedSimpArgs false
set_option maxRecDepth 100000
set_option maxHeartbeats 1000000
namespace Go.Proofs.Ythbjlmoaceaeeaa
open Go Go.Abs
theorem both_loop {a b : List Bool} (h : a.length = b.length) : ∀ (n k i : Nat), i + n = a.length → n < k → M.ref48_both_l1 a b k ((both a b).take i ++ List.replicate n false) i = some (both a b)
  | 0, k, i, hi, hk => by
    obtain ⟨k, rfl⟩ : ∃ g, k = g + 1 := ⟨k - 1, by omega⟩
    rw [M.ref48_both_l1, ltI_f (by omega), List.take_of_length_le (by rw [both_len h]; omega)]; simp
  | n + 1, k, i, hi, hk => by
    obtain ⟨k, rfl⟩ : ∃ g, k = g + 1 := ⟨k - 1, by omega⟩
    have ih := both_loop h n k (i + 1) (by omega) (by omega)
    have ha : a[i]? = some a[i] := List.getElem?_eq_getElem (by omega)
    have hb : b[i]? = some b[i] := List.getElem?_eq_getElem (by omega)
    have hz : (both a b)[i]? = some (a[i] && b[i]) := by unfold both; rw [List.getElem?_zipWith, ha, hb]
    have hlen : ((both a b).take i).length = i := by rw [List.length_take, both_len h]; omega
    have hset : ∀ y, y = (a[i] && b[i]) → ((both a b).take i ++ List.replicate (n + 1) false).set i y = (both a b).take (i + 1) ++ List.replicate n false := fun y hy => by
      rw [List.set_append_right _ _ (by omega), hlen, Nat.sub_self, List.replicate_succ, List.set_cons_zero, List.take_add_one, hz, hy]; simp
    have hix : ixC ((both a b).take i ++ List.replicate (n + 1) false) (i : Int) = some () := ixC_some (by rw [List.length_append, hlen]; simp; omega)
    rw [M.ref48_both_l1, ltI_t (by omega), if_pos rfl, ha, obind, hix]
    cases hx : a[i] with
    | true => rw [if_pos rfl, hb, obind, obind, obind, hset _ (by rw [hx]; simp)]; exact ih
    | false => rw [if_neg (by simp), obind, obind, hset _ (by rw [hx]; simp)]; exact ih
theorem both_M {a b : List Bool} (h : a.length = b.length) (hl : a.length ≤ 10000) {fuel : Nat} (hf : a.length < fuel) : M.ref48_both fuel a b = some (both a b) := by
  rw [M.ref48_both, mkL_some ⟨by omega, by decide, by omega, by omega⟩, obind]
  have := both_loop h a.length fuel 0 (by omega) hf
  rw [List.take_zero, List.nil_append] at this
  rw [Int.toNat_natCast, this]; rfl
theorem same_loop {a b : List Bool} (h : a.length = b.length) : ∀ (n k i : Nat), i + n = a.length → n < k → M.ref48_same_l1 a b k i = some (if a.drop i = b.drop i then .inr () else .inl false)
  | 0, k, i, hi, hk => by
    obtain ⟨k, rfl⟩ : ∃ g, k = g + 1 := ⟨k - 1, by omega⟩
    rw [M.ref48_same_l1, ltI_f (by omega), List.drop_eq_nil_of_le (by omega), List.drop_eq_nil_of_le (by omega)]; simp
  | n + 1, k, i, hi, hk => by
    obtain ⟨k, rfl⟩ : ∃ g, k = g + 1 := ⟨k - 1, by omega⟩
    have ih := same_loop h n k (i + 1) (by omega) (by omega)
    obtain ⟨x, h1, h2, _⟩ := drop_split (s := a) (i := i) (by omega)
    obtain ⟨y, h3, h4, _⟩ := drop_split (s := b) (i := i) (by omega)
    rw [M.ref48_same_l1, ltI_t (by omega), if_pos rfl, h1, obind, h3, obind, h2, h4]
    cases x <;> cases y
    · rw [if_neg (by decide), ih]; simp
    · rw [if_pos (by decide), if_neg (by simp)]
    · rw [if_pos (by decide), if_neg (by simp)]
    · rw [if_neg (by decide), ih]; simp
theorem same_M {a b : List Bool} (h : a.length = b.length) {fuel : Nat} (hf : a.length < fuel) : M.ref48_same fuel a b = some (decide (a = b)) := by
  rw [M.ref48_same, same_loop h a.length fuel 0 (by omega) hf]
  simp only [List.drop_zero, obind]
  by_cases e : a = b
  · rw [if_pos e, decide_eq_true e]; rfl
  · rw [if_neg e, decide_eq_false e]; rfl
structure Rr (f : Api.Fun) (a : List Bool) (b : List Int) (c : List (List Bool)) (X : St) : Prop where
  al : a.length = f.Code.length
  bl : b.length = f.Code.length
  cl : c.length = f.Code.length
  rel : ∀ t : Nat, t < f.Code.length → (X[t]? = some none ∧ a[t]? = some false ∧ b[t]? = some 0 ∧ c[t]? = some []) ∨
    (∃ (d : Int) (r : List Bool), X[t]? = some (some (d, r)) ∧ a[t]? = some true ∧ b[t]? = some d ∧ c[t]? = some r)
theorem Rr.set {f : Api.Fun} {a : List Bool} {b : List Int} {c : List (List Bool)} {X : St} (h : Rr f a b c X) (hl : X.length = f.Code.length) {j : Nat} (hj : j < f.Code.length) (d : Int) (r : List Bool) : Rr f (a.set j true) (b.set j d) (c.set j r) (X.set j (some (d, r))) := by
  refine ⟨by simp [h.al], by simp [h.bl], by simp [h.cl], fun t ht => ?_⟩
  by_cases e : t = j
  · subst e
    exact .inr ⟨d, r, List.getElem?_set_self (by omega), List.getElem?_set_self (by rw [h.al]; exact hj), List.getElem?_set_self (by rw [h.bl]; exact hj), List.getElem?_set_self (by rw [h.cl]; exact hj)⟩
  · have n := Ne.symm e
    rw [List.getElem?_set_ne n, List.getElem?_set_ne n, List.getElem?_set_ne n, List.getElem?_set_ne n]
    exact h.rel t ht
theorem set_same {α : Type} {l : List α} {j : Nat} {x : α} (h : l[j]? = some x) : l.set j x = l := by
  obtain ⟨h1, h2⟩ := List.getElem?_eq_some_iff.1 h
  rw [← h2]; exact List.set_getElem_self h1
theorem lenC_some {α : Type} {r l : List α} (h : r.length = l.length) : lenC r l = some () := by rw [lenC, if_pos h]
theorem meets_rel {f : Api.Fun} (hL : 1 ≤ f.Locals ∧ f.Locals ≤ 4096) {fuel : Nat} (hfu : 5000 ≤ fuel) {a : List Bool} {b : List Int} {c : List (List Bool)} {X : St} (hR : Rr f a b c X) (hX : Good0 f X) {t : Int} (ht : 0 ≤ t ∧ t < f.Code.length)
    {d : Int} {v : List Bool} (hv : v.length = f.Locals.toNat) :
    (mt X t.toNat d v = none → ∃ e, M.ref48_meets fuel t d v a b c = some (false, e, a, b, c)) ∧
    (∀ X' ch, mt X t.toNat d v = some (X', ch) → ∃ a' b' c', M.ref48_meets fuel t d v a b c = some (true, ch, a', b', c') ∧ Rr f a' b' c' X') := by
  obtain ⟨j, rfl⟩ : ∃ j : Nat, t = j := ⟨t.toNat, by omega⟩
  have hj : j < f.Code.length := by omega
  simp only [Int.toNat_natCast]
  have ia : ixC a (j : Int) = some () := ixC_some (by rw [hR.al]; omega)
  have ib : ixC b (j : Int) = some () := ixC_some (by rw [hR.bl]; omega)
  have ic : ixC c (j : Int) = some () := ixC_some (by rw [hR.cl]; omega)
  rw [M.ref48_meets]
  simp only [ia, ib, ic, obind, Int.toNat_natCast]
  unfold mt
  rcases hR.rel j hj with ⟨x1, x2, x3, x4⟩ | ⟨d0, r, x1, x2, x3, x4⟩
  · simp only [x1, x2, obind, Bool.not_false, if_true]
    refine ⟨nofun, fun X' ch h => ?_⟩
    simp only [Option.some.injEq, Prod.mk.injEq] at h
    obtain ⟨rfl, rfl⟩ := h
    exact ⟨_, _, _, rfl, hR.set hX.len hj d v⟩
  · have hr := hX.row j d0 r x1
    have hrv : r.length = v.length := by rw [hr.1, hv]
    simp only [x1, x2, x3, x4, obind, Bool.not_true, Bool.false_eq_true, if_false]
    by_cases hdd : d0 = d
    case neg =>
      rw [if_pos hdd, eqI_f hdd]
      exact ⟨fun _ => ⟨_, rfl⟩, nofun⟩
    subst hdd
    rw [eqI_t rfl, if_neg (show ¬ (d0 ≠ d0) by simp), both_M hrv (by omega) (by omega)]
    simp only [obind, Bool.not_true, Bool.false_eq_true, if_false]
    rw [same_M (both_len hrv) (by rw [both_len hrv]; omega)]
    simp only [obind]
    by_cases hb : both r v = r
    · rw [if_pos hb, decide_eq_true hb, if_pos rfl]
      refine ⟨nofun, fun X' ch h => ?_⟩
      simp only [Option.some.injEq, Prod.mk.injEq] at h
      obtain ⟨rfl, rfl⟩ := h
      exact ⟨_, _, _, rfl, hR⟩
    · rw [if_neg hb, decide_eq_false hb, if_neg (by simp)]
      refine ⟨nofun, fun X' ch h => ?_⟩
      simp only [Option.some.injEq, Prod.mk.injEq] at h
      obtain ⟨rfl, rfl⟩ := h
      have := hR.set hX.len hj d0 (both r v)
      rw [set_same x2, set_same x3] at this
      exact ⟨_, _, _, rfl, this⟩
def noStates : Ref48.States := Ref48.States.mk ([] : List Bool) ([] : List Int) ([] : List (List Bool))
theorem l3_rel {f : Api.Fun} (hL : 1 ≤ f.Locals ∧ f.Locals ≤ 4096) {fuel : Nat} (hfu : 5000 ≤ fuel) {d : Int} {ok : Bool} {v : List Bool} {ts : List Int} {e : Int} (hv : v.length = f.Locals.toNat) (hd : 0 ≤ d ∧ d ≤ 4096) (hts : ∀ t ∈ ts, 0 ≤ t ∧ t < f.Code.length) :
    ∀ (n k i : Nat) (a : List Bool) (b : List Int) (c : List (List Bool)) (ch : Bool) (X : St), i + n = ts.length → n < k → Rr f a b c X → Good0 f X →
    (mts d v (ts.drop i) X = none → M.ref48_Fun_l3 fuel (d, ok) (ts, e) v k a b c ch i = some (.inl (noStates, false))) ∧
    (∀ X' l, mts d v (ts.drop i) X = some (X', l) → ∃ a' b' c', M.ref48_Fun_l3 fuel (d, ok) (ts, e) v k a b c ch i = some (.inr (ch || !l.isEmpty, a', b', c')) ∧ Rr f a' b' c' X')
  | 0, k, i, a, b, c, ch, X, hi, hk, hR, hX => by
    obtain ⟨k, rfl⟩ : ∃ g, k = g + 1 := ⟨k - 1, by omega⟩
    rw [M.ref48_Fun_l3]
    dsimp only
    rw [ltI_f (by omega), List.drop_eq_nil_of_le (by omega), mts]
    refine ⟨nofun, fun X' l h => ?_⟩
    cases h
    exact ⟨a, b, c, by simp, hR⟩
  | n + 1, k, i, a, b, c, ch, X, hi, hk, hR, hX => by
    obtain ⟨k, rfl⟩ : ∃ g, k = g + 1 := ⟨k - 1, by omega⟩
    obtain ⟨t, h1, h2, h3⟩ := drop_split (s := ts) (i := i) (by omega)
    obtain ⟨m1, m2⟩ := meets_rel hL hfu hR hX (hts t h3) (d := d) hv
    rw [M.ref48_Fun_l3]
    dsimp only
    rw [ltI_t (by omega), if_pos rfl, h1, obind, h2, mts]
    cases hm : mt X t.toNat d v with
    | none =>
      obtain ⟨e, he⟩ := m1 hm
      rw [he]
      simp only [obind, lenC_some, Bool.not_false, if_true]
      exact ⟨fun _ => rfl, nofun⟩
    | some q =>
      obtain ⟨X1, c1⟩ := q
      obtain ⟨a1, b1, c2, e1, r1⟩ := m2 X1 c1 hm
      have g1 := (mt_good hX hv hd hm).1
      obtain ⟨k1, k2⟩ := l3_rel hL hfu (ok := ok) (e := e) hv hd hts n k (i + 1) a1 b1 c2 (ch || c1) X1 (by omega) (by omega) r1 g1
      rw [e1]
      simp only [obind]
      rw [lenC_some (by rw [r1.al, hR.al]), obind, lenC_some (by rw [r1.bl, hR.bl]), obind, lenC_some (by rw [r1.cl, hR.cl]), obind]
      simp only [Bool.not_true, Bool.false_eq_true, if_false]
      cases hm2 : mts d v (ts.drop (i + 1)) X1 with
      | none => exact ⟨fun _ => k1 hm2, nofun⟩
      | some q2 =>
        obtain ⟨X2, l2⟩ := q2
        refine ⟨nofun, fun X' l h => ?_⟩
        simp only [obind, Option.some.injEq, Prod.mk.injEq] at h
        obtain ⟨rfl, rfl⟩ := h
        obtain ⟨a3, b3, c3, k3, k4⟩ := k2 _ _ hm2
        refine ⟨a3, b3, c3, ?_, k4⟩
        rw [k3]
        cases c1 <;> cases ch <;> simp
theorem passes_M {p : Api.Program} {f : Api.Fun} (hF : FunOk p f) {at1 : Nat} {x : Api.Instr} (hi : f.Code[at1]? = some x) {d : Int} (hd : 0 ≤ d ∧ d ≤ 4096) {v : List Bool} (hv : v.length = f.Locals.toNat) :
    ∃ r, M.ref48_passes f (at1 : Int) d v = some r ∧ (r.2 = true → r.1 = d - (eff x).1 + (eff x).2.1) ∧
      (r.2 = false ↔ (eff x).2.2 ≠ 0 ∨ d < (eff x).1 ∨ (x.Op = 9 ∧ d ≠ 1) ∨ f.Depth < d - (eff x).1 + (eff x).2.1 ∨ (x.Op = 3 ∧ v[x.A.toNat]? ≠ some true)) := by
  have hat := (List.getElem?_eq_some_iff.1 hi).1
  have hidx : idx f.Code (at1 : Int) = some x := idx_some (by omega) (by simpa using hi)
  have hxr := hF.right at1 x hi
  rw [M.ref48_passes, hidx]
  simp only [obind, reffect_M]
  by_cases c1 : (eff x).2.2 ≠ 0
  · rw [eqI_f c1]
    exact ⟨(0, false), rfl, nofun, by simp [c1]⟩
  have c1 : (eff x).2.2 = 0 := Decidable.byContradiction c1
  have he := eff_ok c1
  rw [eqI_t c1]
  simp only [Bool.not_true, Bool.false_eq_true, if_false]
  by_cases c2 : d < (eff x).1
  · rw [ltI_t c2]
    exact ⟨(0, false), rfl, nofun, by simp [c2]⟩
  rw [ltI_f (by omega)]
  simp only [Bool.false_eq_true, if_false]
  rw [chk64 (n := d - (eff x).1) (by omega) (by omega)]
  simp only [obind]
  rw [chk64 (n := d - (eff x).1 + (eff x).2.1) (by omega) (by omega)]
  simp only [obind]
  by_cases c3 : x.Op = 9 ∧ d ≠ 1
  · rw [eqI_t c3.1, eqI_f c3.2]
    exact ⟨(0, false), rfl, nofun, by simp [c3.1, c3.2]⟩
  have e3 : (if eqI x.Op 9 = true then if (!eqI d 1) = true then some true else some (ltI f.Depth (d - (eff x).1 + (eff x).2.1)) else some (ltI f.Depth (d - (eff x).1 + (eff x).2.1)) : Option Bool) = some (ltI f.Depth (d - (eff x).1 + (eff x).2.1)) := by
    by_cases e : x.Op = 9
    · have : d = 1 := Decidable.byContradiction fun h => c3 ⟨e, h⟩
      rw [eqI_t e, eqI_t this]; rfl
    · rw [eqI_f e]; rfl
  rw [e3]
  simp only [obind]
  by_cases c4 : f.Depth < d - (eff x).1 + (eff x).2.1
  · rw [ltI_t c4]
    exact ⟨(0, false), rfl, nofun, by simp [c4]⟩
  rw [ltI_f (by omega)]
  simp only [Bool.false_eq_true, if_false]
  by_cases e : x.Op = 3
  · have hA := rightS_A hxr (.inl e)
    have hv : v[x.A.toNat]? = some v[x.A.toNat] := List.getElem?_eq_getElem (by omega)
    rw [eqI_t e]
    simp only [Bool.not_true, Bool.false_eq_true, if_false]
    rw [idx_some hA.1 hv]
    simp only [obind]
    refine ⟨_, rfl, fun _ => rfl, ?_⟩
    rw [hv]
    cases v[x.A.toNat] <;> simp [c1, c4, e] <;> omega
  · rw [eqI_f e]
    refine ⟨_, rfl, fun _ => rfl, ?_⟩
    simp [c1, c4, e]
    refine ⟨by omega, fun h9 => Decidable.byContradiction fun h => c3 ⟨h9, h⟩⟩
theorem after_M {p : Api.Program} {f : Api.Fun} (hF : FunOk p f) {at1 : Nat} {x : Api.Instr} (hi : f.Code[at1]? = some x) {v : List Bool} (hv : v.length = f.Locals.toNat) :
    M.ref48_after x v = some (if x.Op = 4 ∨ x.Op = 13 then v.set x.A.toNat true else v) := by
  have hh := hF.head
  have h1 := hh.l0; have h2 := hh.l1
  have hxr := hF.right at1 x hi
  rw [M.ref48_after, clC_some ⟨by omega, by decide, by omega⟩, obind]
  by_cases c : x.Op = 4 ∨ x.Op = 13
  · have hA := rightS_A hxr (.inr c)
    have e7 : ((eqI x.Op 4) || (eqI x.Op 13)) = true := by rcases c with c | c <;> rw [eqI_t c] <;> simp
    rw [e7, if_pos rfl, ixC_some ⟨hA.1, by omega⟩, obind, if_pos c]
  · have e7 : ((eqI x.Op 4) || (eqI x.Op 13)) = false := by rw [eqI_f (fun e => c (.inl e)), eqI_f (fun e => c (.inr e))]; rfl
    rw [e7, if_neg c]; rfl
end Go.Proofs.Ythbjlmoaceaeeaa
set_option linter.unusedVariables false
set_option linter.unusedSimpArgs false
set_option maxRecDepth 100000
set_option maxHeartbeats 1000000
namespace Go.Proofs.Ythbjlmoaceaeeaa
open Go Go.Abs
structure RInv (f : Api.Fun) (a : List Bool) (b : List Int) (c : List (List Bool)) (X : St) : Prop where
  rr : Rr f a b c X
  good : Good0 f X
  start : ∃ v, X[0]? = some (some (0, v)) ∧ Sub v (first f)
  least : ∀ Y, Cons f Y → Le X Y
theorem l2_rel {p : Api.Program} {f : Api.Fun} (hF : FunOk p f) {fuel : Nat} (hfu : 20000 ≤ fuel) : ∀ (n k i : Nat) (a : List Bool) (b : List Int) (c : List (List Bool)) (ch : Bool) (X : St), i + n = f.Code.length → n < k → RInv f a b c X →
    (M.ref48_Fun_l2 fuel f k a b c ch i = some (.inl (noStates, false)) ∧ ∀ Y, ¬ Cons f Y) ∨
    (∃ ch' a' b' c' X', M.ref48_Fun_l2 fuel f k a b c ch i = some (.inr (ch', a', b', c')) ∧ RInv f a' b' c' X' ∧ pot f.Locals.toNat X' + (if ch' && !ch then 1 else 0) ≤ pot f.Locals.toNat X ∧
      (ch' = false → ch = false ∧ X' = X ∧ ∀ j, i ≤ j → j < f.Code.length → Sat f X j))
  | 0, k, i, a, b, c, ch, X, hi, hk, hI => by
    obtain ⟨k, rfl⟩ : ∃ g, k = g + 1 := ⟨k - 1, by omega⟩
    rw [M.ref48_Fun_l2, ltI_f (by omega), if_neg (by simp)]
    exact .inr ⟨ch, a, b, c, X, rfl, hI, by cases ch <;> simp, fun h => ⟨h, rfl, fun j h1 h2 => by omega⟩⟩
  | n + 1, k, i, a, b, c, ch, X, hi, hk, hI => by
    obtain ⟨k, rfl⟩ : ∃ g, k = g + 1 := ⟨k - 1, by omega⟩
    have hh := hF.head
    have h1 := hh.l0; have h2 := hh.l1; have h3 := hh.n1
    have hit : i < f.Code.length := by omega
    obtain ⟨x, hx, _, _⟩ := drop_split (s := f.Code) (i := i) hit
    rw [M.ref48_Fun_l2, ltI_t (by omega), if_pos rfl, ixC_some (by rw [hI.rr.al]; omega), obind]
    rcases hI.rr.rel i hit with ⟨x1, x2, x3, x4⟩ | ⟨d, v, x1, x2, x3, x4⟩
    · rw [x2, obind, if_pos (by simp)]
      rcases l2_rel hF hfu n k (i + 1) a b c ch X (by omega) (by omega) hI with h | ⟨ch', a', b', c', X', e1, e2, e3, e4⟩
      · exact .inl h
      · refine .inr ⟨ch', a', b', c', X', e1, e2, e3, fun h => ?_⟩
        obtain ⟨k1, k2, k3⟩ := e4 h
        refine ⟨k1, k2, fun j hj1 hj2 => ?_⟩
        by_cases e : j = i
        · subst e; intro d v hd; rw [x1] at hd; cases hd
        · exact k3 j (by omega) hj2
    · have hrow := hI.good.row i d v x1
      obtain ⟨r, p1, p2, p3⟩ := passes_M hF hx ⟨hrow.2.1, hrow.2.2⟩ hrow.1
      rw [x2, obind, if_neg (by simp), ixC_some (by rw [hI.rr.bl]; omega), obind, x3, obind, ixC_some (by rw [hI.rr.cl]; omega), obind, x4, obind, p1, obind, rtargets_M h3 hx hfu, obind]
      obtain ⟨r1, r2⟩ := r
      dsimp only at p2 p3 ⊢
      by_cases hbad : r2 = false ∨ (tgt f i x).2 ≠ 0
      · have hfl : flow f i d v = none := by
          unfold flow
          rw [hx]
          dsimp only
          rw [if_pos]
          rcases hbad with h | h
          · rcases p3.1 h with h | h | h | h | h
            · exact .inl h
            · exact .inr (.inl h)
            · exact .inr (.inr (.inl h))
            · exact .inr (.inr (.inr (.inl h)))
            · exact .inr (.inr (.inr (.inr (.inl h))))
          · exact .inr (.inr (.inr (.inr (.inr h))))
        left
        constructor
        · rw [if_pos]
          · rfl
          · rcases hbad with h | h
            · rw [h]; rfl
            · rw [eqI_f h]; simp
        · intro Y hY
          obtain ⟨d', v', ts, X', l, h1, _⟩ := step_le hY (hI.least Y hY) x1
          rw [hfl] at h1; cases h1
      · rw [not_or] at hbad
        have hr2 : r2 = true := by cases r2 with | true => rfl | false => exact (hbad.1 rfl).elim
        have c6 : (tgt f i x).2 = 0 := Decidable.byContradiction hbad.2
        have hcond := fun h => hbad.1 (p3.2 h)
        have hr1 := p2 hr2
        subst hr1
        have hfl : flow f i d v = some (d - (eff x).1 + (eff x).2.1, if x.Op = 4 ∨ x.Op = 13 then v.set x.A.toNat true else v, (tgt f i x).1) := by
          unfold flow
          rw [hx]
          dsimp only
          rw [if_neg]
          intro h
          rcases h with h | h | h | h | h | h
          · exact hcond (.inl h)
          · exact hcond (.inr (.inl h))
          · exact hcond (.inr (.inr (.inl h)))
          · exact hcond (.inr (.inr (.inr (.inl h))))
          · exact hcond (.inr (.inr (.inr (.inr h))))
          · exact h c6
        obtain ⟨fl1, fl2, fl3, fl4, fl5⟩ := flow_len hfl
        have hv' := fl1.trans hrow.1
        have hd' := And.intro fl3 (Int.le_trans fl4 hh.d1)
        rw [hr2, eqI_t c6, if_neg (by simp), hx, obind, obind, obind, after_M hF hx hrow.1, obind]
        have htl := tgt_len (f := f) (at1 := i) (x := x)
        generalize hts : (tgt f i x).1 = ts at *
        have hpair : tgt f i x = (ts, 0) := by rw [← hts, ← c6]
        rw [hpair]
        obtain ⟨m1, m2⟩ := l3_rel ⟨h1, h2⟩ (fuel := fuel) (by omega) (ok := true) (e := 0) hv' hd' fl5 ts.length fuel 0 a b c ch X (by omega) (by omega) hI.rr hI.good
        rw [List.drop_zero] at m1 m2
        cases hm : mts (d - (eff x).1 + (eff x).2.1) (if x.Op = 4 ∨ x.Op = 13 then v.set x.A.toNat true else v) ts X with
        | none =>
          rw [m1 hm]
          left
          refine ⟨rfl, fun Y hY => ?_⟩
          obtain ⟨d2, v2, ts2, X', l, k1, k2, _⟩ := step_le hY (hI.least Y hY) x1
          rw [hfl] at k1
          simp only [Option.some.injEq, Prod.mk.injEq] at k1
          obtain ⟨rfl, rfl, rfl⟩ := k1
          rw [hm] at k2; cases k2
        | some q =>
          obtain ⟨X1, l⟩ := q
          obtain ⟨a1, b1, c1, e1, e2⟩ := m2 X1 l hm
          obtain ⟨g1, g2, g3, g4, g5, g6⟩ := mts_good hv' hd' hI.good hm
          have hp := mts_pot hv' hd' hI.good hm
          rw [e1]
          simp only [obind, Sum.elim_inr]
          have hI1 : RInv f a1 b1 c1 X1 := by
            refine ⟨e2, g1, ?_, fun Y hY => ?_⟩
            · obtain ⟨v0, s1, s2⟩ := hI.start
              obtain ⟨w, k1, k2⟩ := g6 0 0 v0 s1
              exact ⟨w, k1, k2.trans s2⟩
            · obtain ⟨d2, v2, ts2, X2, l2, k1, k2, k3⟩ := step_le hY (hI.least Y hY) x1
              rw [hfl] at k1
              simp only [Option.some.injEq, Prod.mk.injEq] at k1
              obtain ⟨rfl, rfl, rfl⟩ := k1
              rw [hm] at k2
              simp only [Option.some.injEq, Prod.mk.injEq] at k2
              obtain ⟨rfl, rfl⟩ := k2
              exact k3
          rcases l2_rel hF hfu n k (i + 1) a1 b1 c1 (ch || !l.isEmpty) X1 (by omega) (by omega) hI1 with h | ⟨ch', a', b', c', X', k1, k2, k3, k4⟩
          · exact .inl h
          · refine .inr ⟨ch', a', b', c', X', k1, k2, ?_, fun h => ?_⟩
            · cases l with
              | nil => cases ch <;> cases ch' <;> simp at k3 hp ⊢ <;> omega
              | cons t l => cases ch <;> cases ch' <;> simp at k3 hp ⊢ <;> omega
            · obtain ⟨q1, q2, q3⟩ := k4 h
              have hl : l = [] := by cases l with | nil => rfl | cons t l => simp at q1
              have hX1 := g4 hl
              subst hX1
              refine ⟨by cases ch with | false => rfl | true => simp at q1, q2, fun j hj1 hj2 => ?_⟩
              by_cases e : j = i
              · subst e
                intro d1 u1 hu1
                rw [x1] at hu1
                simp only [Option.some.injEq, Prod.mk.injEq] at hu1
                obtain ⟨rfl, rfl⟩ := hu1
                exact ⟨_, _, _, hfl, g2⟩
              · exact q3 j (by omega) hj2
theorem l1_rel {p : Api.Program} {f : Api.Fun} (hF : FunOk p f) {fuel : Nat} (hfu : 20000 ≤ fuel) : ∀ (k : Nat) (a : List Bool) (b : List Int) (c : List (List Bool)) (X : St) (ch : Bool), RInv f a b c X → pot f.Locals.toNat X + (if ch then 1 else 0) < k → (ch = false → ∀ j, Sat f X j) →
    (M.ref48_Fun_l1 fuel f k a b c ch = some (.inl (noStates, false)) ∧ ∀ Y, ¬ Cons f Y) ∨
    (∃ a' b' c' X', M.ref48_Fun_l1 fuel f k a b c ch = some (.inr (a', b', c')) ∧ Rr f a' b' c' X' ∧ Least f X')
  | 0, a, b, c, X, ch, hI, hk, hs => by omega
  | k + 1, a, b, c, X, ch, hI, hk, hs => by
    rw [M.ref48_Fun_l1]
    cases ch with
    | false =>
      rw [if_neg (by simp)]
      exact .inr ⟨a, b, c, X, rfl, hI.rr, ⟨⟨hI.good, hI.start, hs rfl⟩, hI.least⟩⟩
    | true =>
      rw [if_pos rfl]
      have h3 := hF.head.n1
      rcases l2_rel hF hfu f.Code.length fuel 0 a b c false X (by omega) (by omega) hI with ⟨h1, h2⟩ | ⟨ch', a', b', c', X', e1, e2, e3, e4⟩
      · left
        refine ⟨?_, h2⟩
        rw [h1]; rfl
      · rw [e1]
        simp only [obind, Sum.elim_inr]
        simp only [if_true] at hk
        refine l1_rel hF hfu k a' b' c' X' ch' e2 (by cases ch' <;> simp at e3 ⊢ <;> omega) fun h j => ?_
        obtain ⟨_, q2, q3⟩ := e4 h
        subst q2
        rcases Nat.lt_or_ge j f.Code.length with hj | hj
        · exact q3 j (by omega) hj
        · intro d v hd
          have := (List.getElem?_eq_some_iff.1 hd).1
          rw [e2.good.len] at this; omega
def outD : Option (Int × List Bool) → Int
  | none => -1
  | some (d, _) => d
def outS : Option (Int × List Bool) → List Bool
  | none => []
  | some (_, v) => v
theorem l4_rel {f : Api.Fun} {a : List Bool} {b : List Int} {c : List (List Bool)} {X : St} (hR : Rr f a b c X) (hl : X.length = f.Code.length) : ∀ (n k i : Nat), i + n = f.Code.length → n < k →
    M.ref48_Fun_l4 f (a, b, c) k ((X.map outD).take i ++ b.drop i) i = some (X.map outD)
  | 0, k, i, hi, hk => by
    obtain ⟨k, rfl⟩ : ∃ g, k = g + 1 := ⟨k - 1, by omega⟩
    rw [M.ref48_Fun_l4, ltI_f (by omega), List.take_of_length_le (by simp [hl]; omega), List.drop_eq_nil_of_le (by rw [hR.bl]; omega)]; simp
  | n + 1, k, i, hi, hk => by
    obtain ⟨k, rfl⟩ : ∃ g, k = g + 1 := ⟨k - 1, by omega⟩
    have hit : i < f.Code.length := by omega
    have ih := l4_rel hR hl n k (i + 1) (by omega) (by omega)
    have hlen : ((X.map outD).take i).length = i := by rw [List.length_take, List.length_map, hl]; omega
    have hbd : b.drop i = b[i]'(by rw [hR.bl]; exact hit) :: b.drop (i + 1) := List.drop_eq_getElem_cons _
    rw [M.ref48_Fun_l4, ltI_t (by omega), if_pos rfl]
    dsimp only
    rw [ixC_some (by rw [hR.al]; omega), obind]
    rcases hR.rel i hit with ⟨x1, x2, x3, x4⟩ | ⟨d, v, x1, x2, x3, x4⟩
    · have hm : (X.map outD)[i]? = some (-1) := by rw [List.getElem?_map, x1]; rfl
      rw [x2, obind, if_pos (by simp), ixC_some (by rw [List.length_append, hlen, List.length_drop, hR.bl]; omega), obind]
      have : ((X.map outD).take i ++ b.drop i).set i (-1) = (X.map outD).take (i + 1) ++ b.drop (i + 1) := by
        rw [List.set_append_right _ _ (by omega), hlen, Nat.sub_self, hbd, List.set_cons_zero, List.take_add_one, hm]; simp
      rw [this]; exact ih
    · have hm : (X.map outD)[i]? = some d := by rw [List.getElem?_map, x1]; rfl
      rw [x2, obind, if_neg (by simp)]
      have : (X.map outD).take i ++ b.drop i = (X.map outD).take (i + 1) ++ b.drop (i + 1) := by
        obtain ⟨h1, h2⟩ := List.getElem?_eq_some_iff.1 x3
        rw [hbd, h2, List.take_add_one, hm]; simp
      rw [this]; exact ih
theorem rr_out {f : Api.Fun} {a : List Bool} {b : List Int} {c : List (List Bool)} {X : St} (hR : Rr f a b c X) (hl : X.length = f.Code.length) : a = X.map Option.isSome ∧ c = X.map outS := by
  constructor
  · apply List.ext_getElem?
    intro t
    rcases Nat.lt_or_ge t f.Code.length with ht | ht
    · rcases hR.rel t ht with ⟨x1, x2, x3, x4⟩ | ⟨d, v, x1, x2, x3, x4⟩
      · rw [x2, List.getElem?_map, x1]; rfl
      · rw [x2, List.getElem?_map, x1]; rfl
    · rw [List.getElem?_eq_none (by rw [hR.al]; exact ht), List.getElem?_eq_none (by simp [hl]; exact ht)]
  · apply List.ext_getElem?
    intro t
    rcases Nat.lt_or_ge t f.Code.length with ht | ht
    · rcases hR.rel t ht with ⟨x1, x2, x3, x4⟩ | ⟨d, v, x1, x2, x3, x4⟩
      · rw [x4, List.getElem?_map, x1]; rfl
      · rw [x4, List.getElem?_map, x1]; rfl
    · rw [List.getElem?_eq_none (by rw [hR.cl]; exact ht), List.getElem?_eq_none (by simp [hl]; exact ht)]
def states (X : St) : Ref48.States := ⟨X.map Option.isSome, X.map outD, X.map outS⟩
theorem RFun_M {p : Api.Program} {f : Api.Fun} (hF : FunOk p f) {fuel : Nat} (hfu : 100000000 ≤ fuel) :
    (M.ref48_Fun fuel f = some (noStates, false) ∧ ∀ Y, ¬ Cons f Y) ∨ (∃ X, M.ref48_Fun fuel f = some (states X, true) ∧ Least f X) := by
  have hh := hF.head
  have h1 := hh.l0; have h2 := hh.l1; have h3 := hh.n1; have h4 := hh.n0
  have hp := X1_pot hh
  rw [M.ref48_Fun, mkL_some ⟨by omega, by decide, by omega, by omega⟩, obind, mkL_some ⟨by omega, by decide, by omega, by omega⟩, obind, mkL_some ⟨by omega, by decide, by omega, by omega⟩, obind,
    mkL_some ⟨by omega, by decide, by omega, by omega⟩, obind, ixC_some (by simp; omega), obind]
  simp only [Int.toNat_natCast]
  have hR0 : Rr f (List.replicate f.Code.length false) (List.replicate f.Code.length 0) (List.replicate f.Code.length []) (List.replicate f.Code.length none) :=
    ⟨by simp, by simp, by simp, fun t ht => .inl ⟨by simp [ht], by simp [ht], by simp [ht], by simp [ht]⟩⟩
  obtain ⟨_, m2⟩ := meets_rel (f := f) ⟨h1, h2⟩ (fuel := fuel) (by omega) hR0 (X0_good f) (t := 0) ⟨by omega, by omega⟩ (v := first f) (first_len f) (d := 0)
  obtain ⟨a1, b1, c1, e1, e2⟩ := m2 (X1 f) true (X1_mt hh)
  have e1' : M.ref48_meets fuel 0 0 ((List.replicate f.Locals.toNat false).set 0 true) (List.replicate f.Code.length false) (List.replicate f.Code.length 0) (List.replicate f.Code.length []) = some (true, true, a1, b1, c1) := e1
  rw [e1']
  simp only [obind]
  rw [lenC_some (by rw [e2.al]; simp), obind, lenC_some (by rw [e2.bl]; simp), obind, lenC_some (by rw [e2.cl]; simp), obind]
  have g := (mt_good (X0_good f) (first_len f) (d := 0) (by omega) (X1_mt hh)).1
  have h0 : (X1 f)[0]? = some (some (0, first f)) := List.getElem?_set_self (by simp; omega)
  rcases l1_rel hF (fuel := fuel) (by omega) fuel a1 b1 c1 (X1 f) true ⟨e2, g, ⟨first f, h0, Sub.refl _⟩, X1_least hh⟩ (by simp; omega) nofun with ⟨k1, k2⟩ | ⟨a', b', c', X', k1, k2, k3⟩
  · left
    refine ⟨?_, k2⟩
    rw [k1]; rfl
  · right
    refine ⟨X', ?_, k3⟩
    rw [k1]
    simp only [obind, Sum.elim_inr]
    have hl := k3.1.len
    have := l4_rel k2 hl f.Code.length fuel 0 (by omega) (by omega)
    rw [List.take_zero, List.drop_zero, List.nil_append] at this
    rw [this, obind]
    obtain ⟨q1, q2⟩ := rr_out k2 hl
    rw [q1, q2]; rfl
end Go.Proofs.Ythbjlmoaceaeeaa
set_option linter.unusedVariables false
set_option linter.unusedSimpArgs false
set_option maxRecDepth 100000
set_option maxHeartbeats 1000000
namespace Go.Proofs.Ythbjlmoaceaeeaa
open Go Go.Abs
theorem awake_M {fuel : Nat} (h : 200 ≤ fuel) : M.law48_awake fuel = some true := by
  obtain ⟨g, rfl⟩ : ∃ g, fuel = g + 200 := ⟨fuel - 200, by omega⟩
  kernel_rfl
theorem big_M (p : Api.Program) {fuel : Nat} (hf : 1000 ≤ fuel) : ∃ b, M.law48_big fuel p = some b := by
  rw [M.law48_big]
  by_cases h1 : 10 < p.Funs.length
  · rw [ltI_t (by omega)]; exact ⟨true, rfl⟩
  rw [ltI_f (by omega)]
  by_cases h2 : 50 < p.Texts.length
  · rw [ltI_t (by omega)]; exact ⟨true, rfl⟩
  rw [ltI_f (by omega)]
  simp only [Bool.false_eq_true, if_false]
  have e1 : M.slices_ContainsFunc_string_big_1 fuel p.Texts = some (p.Texts.any fun s => ltI 1000 (s.length : Int)) := by
    rw [M.slices_ContainsFunc_string_big_1, M.slices_IndexFunc_string_big_1]
    exact cf_loop (s := p.Texts) (Q := fun x => M.law48_big_1 x) (g := M.slices_IndexFunc_string_big_1_l1 p.Texts) (fun k i => by rw [M.slices_IndexFunc_string_big_1_l1]) (fun x _ => rfl) (by omega)
  have e2 : M.slices_ContainsFunc_api_Fun_big_2 fuel p.Funs = some (p.Funs.any fun f => (ltI 200 (f.Code.length : Int)) || ((ltI 60 f.Locals) && (leI f.Locals 4096))) := by
    rw [M.slices_ContainsFunc_api_Fun_big_2, M.slices_IndexFunc_api_Fun_big_2]
    exact cf_loop (s := p.Funs) (Q := fun x => M.law48_big_2 x) (g := M.slices_IndexFunc_api_Fun_big_2_l1 p.Funs) (fun k i => by rw [M.slices_IndexFunc_api_Fun_big_2_l1]) (fun x _ => rfl) (by omega)
  rw [e1, e2]
  simp only [obind]
  split
  · exact ⟨_, rfl⟩
  · exact ⟨_, rfl⟩
theorem valid_fun {p : Api.Program} (h : validS p = true) {f : Api.Fun} (hf : f ∈ p.Funs) : FunOk p f := by
  unfold validS at h
  simp only [Bool.and_eq_true] at h
  obtain ⟨h1, h2, h3, h4, h5, h6, h7⟩ := h
  refine ⟨headS_iff.1 (List.all_eq_true.1 h4 f hf), fun at1 x hx => ?_⟩
  have := List.all_eq_true.1 h5 f hf
  unfold rightsS at this
  have hm : (x, at1) ∈ f.Code.zipIdx 0 := by rw [List.mem_zipIdx_iff_getElem?]; simpa using hx
  exact List.all_eq_true.1 this _ hm
theorem valid_len {p : Api.Program} (h : validS p = true) : 1 ≤ p.Funs.length ∧ p.Funs.length ≤ 4096 := by
  unfold validS at h
  simp only [Bool.and_eq_true] at h
  have := inn_iff.1 h.1
  omega
def Res (p : Api.Program) (n : Int) (o : Int ⊕ St) : Prop :=
  if validS p = false then o = .inl 1 else if n < 0 ∨ p.Funs.length ≤ n then o = .inl 2 else
    ∃ f, p.Funs[n.toNat]? = some f ∧ ((o = .inl 24 ∧ ∀ Y, ¬ Cons f Y) ∨ ∃ X, o = .inr X ∧ Least f X)
theorem Res.uniq {p : Api.Program} {n : Int} {o o' : Int ⊕ St} (h : Res p n o) (h' : Res p n o') : o = o' := by
  unfold Res at h h'
  split at h
  · rename_i hc
    rw [if_pos hc] at h'
    rw [h, h']
  · rename_i hc
    rw [if_neg hc] at h'
    split at h
    · rename_i hd
      rw [if_pos hd] at h'
      rw [h, h']
    · rename_i hd
      rw [if_neg hd] at h'
      obtain ⟨f, h1, h2⟩ := h
      obtain ⟨f', h3, h4⟩ := h'
      rw [h1] at h3; cases h3
      rcases h2 with ⟨rfl, h2⟩ | ⟨X, rfl, h2⟩ <;> rcases h4 with ⟨rfl, h4⟩ | ⟨Y, rfl, h4⟩
      · rfl
      · exact (h2 Y h4.1).elim
      · exact (h4 X h2.1).elim
      · rw [h2.uniq h4]
theorem Res.inr {p : Api.Program} {n : Int} {X : St} (h : Res p n (.inr X)) : validS p = true ∧ 0 ≤ n ∧ ∃ f, p.Funs[n.toNat]? = some f ∧ FunOk p f ∧ Least f X := by
  unfold Res at h
  split at h
  · cases h
  · rename_i hc
    split at h
    · cases h
    · rename_i hd
      obtain ⟨f, h1, h2⟩ := h
      rcases h2 with ⟨h2, _⟩ | ⟨Y, h2, h3⟩
      · cases h2
      · cases h2
        have hv : validS p = true := by simpa using hc
        exact ⟨hv, by omega, f, h1, valid_fun hv (List.mem_of_getElem? h1), h3⟩
theorem rl_D {f : Api.Fun} {s : M.VS} {X : St} (h : Rl f s X) (hl : X.length = f.Code.length) : s.D = X.map outD := by
  apply List.ext_getElem?
  intro t
  rcases Nat.lt_or_ge t f.Code.length with ht | ht
  · rcases h.rel t ht with ⟨x1, x2, x3⟩ | ⟨d, v, k, x1, x2, x3, x4, x5⟩
    · rw [x2, List.getElem?_map, x1]; rfl
    · rw [x2, List.getElem?_map, x1]; rfl
  · rw [List.getElem?_eq_none (by rw [h.dl]; exact ht), List.getElem?_eq_none (by simp [hl]; exact ht)]
theorem rowsOf_M (L : Nat) (R : List M.Blk) : ∀ (S : List (Option Nat)) (X : St), X.length = S.length → (∀ t : Nat, t < S.length → (X[t]? = some none ∧ S[t]? = some none) ∨ (∃ (d : Int) (r : List Bool) (k : Nat), X[t]? = some (some (d, r)) ∧ S[t]? = some (some k) ∧ M.rowOf R k = some r ∧ r.length = L)) →
    M.rowsOf L R S = some (X.map outS)
  | [], X, hl, h => by
    have : X = [] := by simpa using hl
    subst this; rfl
  | o :: S, [], hl, h => by simp at hl
  | o :: S, x :: X, hl, h => by
    have ih := rowsOf_M L R S X (by simpa using hl) fun t ht => by simpa using h (t + 1) (by simpa using ht)
    rcases h 0 (by simp) with ⟨x1, x2⟩ | ⟨d, r, k, x1, x2, x3, x4⟩
    · simp at x1 x2; subst x1; subst x2
      rw [M.rowsOf, ih]; rfl
    · simp at x1 x2; subst x1; subst x2
      rw [M.rowsOf, x3, obind, lenN, if_pos x4, obind, ih]; rfl
theorem reach_M : ∀ (D : List Int) (out : List Bool), out.length + D.length ≤ 100000 → M.verify_Reached_l D out = some (out ++ D.map fun d => leI 0 d)
  | [], out, h => by rw [M.verify_Reached_l]; simp
  | d :: D, out, h => by
    rw [M.verify_Reached_l, app_some (by decide) (by simp at h ⊢; omega), obind, reach_M D _ (by simp at h ⊢; omega)]; simp
def kE : Int ⊕ St → Int
  | .inl e => e
  | .inr _ => 0
def kD : Int ⊕ St → List Int × Int
  | .inl e => ([], e)
  | .inr X => (X.map outD, 0)
def kS : Int ⊕ St → List (List Bool) × Int
  | .inl e => ([], e)
  | .inr X => (X.map outS, 0)
def kR : Int ⊕ St → List Bool × Int
  | .inl e => ([], e)
  | .inr X => (X.map Option.isSome, 0)
def kO : Int ⊕ St → Ref48.States × Int
  | .inl e => (noStates, e)
  | .inr X => (states X, 0)
structure Knows (p : Api.Program) (n : Int) (fuel : Nat) (o : Int ⊕ St) : Prop where
  res : Res p n o
  fn : M.verify_Fun fuel p n = some (kE o)
  dep : M.verify_Depths fuel p n = some (kD o)
  set : M.verify_Set fuel p n = some (kS o)
  rea : M.verify_Reached fuel p n = some (kR o)
  ref : M.ref48_Of fuel p n = some (kO o)
theorem knows_err {p : Api.Program} {n : Int} {fuel : Nat} {e : Int} (h : Res p n (.inl e)) (h1 : M.verify_function fuel p n = some (.inl e)) (h2 : M.ref48_Of fuel p n = some (noStates, e)) : Knows p n fuel (.inl e) :=
  ⟨h, by rw [M.verify_Fun, h1]; rfl, by rw [M.verify_Depths, h1]; rfl, by rw [M.verify_Set, h1]; rfl, by rw [M.verify_Reached, h1]; rfl, h2⟩
theorem knows (p : Api.Program) (n : Int) {fuel : Nat} (hf : 100000000 ≤ fuel) : ∃ o, Knows p n fuel o := by
  cases hv : validS p with
  | false =>
    refine ⟨.inl 1, knows_err (by unfold Res; rw [if_pos hv]) ?_ ?_⟩
    · rw [M.verify_function, Valid_M p (by omega), obind, hv]; rfl
    · rw [M.ref48_Of, RValid_M p (by omega), obind, hv]; rfl
  | true =>
  by_cases hn : n < 0 ∨ p.Funs.length ≤ n
  · have e1 : ((ltI n 0) || (leI (p.Funs.length : Int) n)) = true := by
      rcases hn with h | h
      · rw [ltI_t h]; rfl
      · rw [leI_t h]; simp
    refine ⟨.inl 2, knows_err (by unfold Res; rw [if_neg (by simp [hv]), if_pos hn]) ?_ ?_⟩
    · rw [M.verify_function, Valid_M p (by omega), obind, hv, e1]; rfl
    · rw [M.ref48_Of, RValid_M p (by omega), obind, hv, e1]; rfl
  · rw [not_or] at hn
    have e1 : ((ltI n 0) || (leI (p.Funs.length : Int) n)) = false := by rw [ltI_f (by omega), leI_f (by omega)]; rfl
    obtain ⟨f, hfn, _, hmem⟩ := drop_split (s := p.Funs) (i := n.toNat) (by omega)
    have hF := valid_fun hv hmem
    have hidx : idx p.Funs n = some f := idx_some (by omega) hfn
    obtain ⟨b, s, a1, a2, a3⟩ := analyze_M hF hf
    have hres : ∀ o, ((o = .inl 24 ∧ ∀ Y, ¬ Cons f Y) ∨ ∃ X, o = .inr X ∧ Least f X) → Res p n o := fun o ho => by
      unfold Res; rw [if_neg (by simp [hv]), if_neg (by omega)]; exact ⟨f, hfn, ho⟩
    cases b with
    | false =>
      have hno := a3 rfl
      rcases RFun_M hF hf with ⟨r1, r2⟩ | ⟨X, r1, r2⟩
      · refine ⟨.inl 24, knows_err (hres _ (.inl ⟨rfl, hno⟩)) ?_ ?_⟩
        · rw [M.verify_function, Valid_M p (by omega), obind, hv, e1]
          simp only [Bool.not_true, Bool.false_eq_true, if_false]
          rw [hidx, obind, a1]; rfl
        · rw [M.ref48_Of, RValid_M p (by omega), obind, hv, e1]
          simp only [Bool.not_true, Bool.false_eq_true, if_false]
          rw [hidx, obind, r1]; rfl
      · exact (hno X r2.1).elim
    | true =>
      obtain ⟨X, l1, l2⟩ := a2 rfl
      rcases RFun_M hF hf with ⟨r1, r2⟩ | ⟨X', r1, r2⟩
      · exact (r2 X l1.1).elim
      · have := r2.uniq l1
        subst this
        have hl := l1.1.len
        have h1 := hF.head.n1
        have hfun : M.verify_function fuel p n = some (.inr s) := by
          rw [M.verify_function, Valid_M p (by omega), obind, hv, e1]
          simp only [Bool.not_true, Bool.false_eq_true, if_false]
          rw [hidx, obind, a1]; rfl
        refine ⟨.inr X', hres _ (.inr ⟨X', rfl, l1⟩), by rw [M.verify_Fun, hfun]; rfl, by rw [M.verify_Depths, hfun, obind, kD, ← rl_D l2 hl], ?_, ?_, ?_⟩
        · rw [M.verify_Set, hfun, obind]
          dsimp only
          rw [rowsOf_M s.f.Locals.toNat s.R s.S X' (by rw [hl, l2.sl]) fun t ht => ?_]
          · rfl
          · rw [l2.sl] at ht
            rcases l2.rel t ht with ⟨x1, x2, x3⟩ | ⟨d, v, k, x1, x2, x3, x4, x5⟩
            · exact .inl ⟨x1, x3⟩
            · exact .inr ⟨d, v, k, x1, x4, x5, by rw [l2.hf]; exact (l1.1.row t d v x1).1⟩
        · rw [M.verify_Reached, hfun, obind]
          dsimp only
          rw [reach_M _ _ (by rw [l2.dl]; simp; omega), obind, rl_D l2 hl, List.nil_append, List.map_map]
          congr 2
          apply List.map_congr_left
          intro o ho
          cases o with
          | none => rfl
          | some q =>
            obtain ⟨t, ht⟩ := List.getElem?_of_mem ho
            have := l1.1.row t q.1 q.2 ht
            exact leI_t this.2.1
        · rw [M.ref48_Of, RValid_M p (by omega), obind, hv, e1]
          simp only [Bool.not_true, Bool.false_eq_true, if_false]
          rw [hidx, obind, r1]; rfl
open Classical in
noncomputable def accB (f : Api.Fun) : Bool := decide (∃ Y, Cons f Y)
theorem accB_t {f : Api.Fun} {X : St} (h : Least f X) : accB f = true := by unfold accB; simp only [decide_eq_true_eq]; exact ⟨X, h.1⟩
theorem accB_f {f : Api.Fun} (h : ∀ Y, ¬ Cons f Y) : accB f = false := by unfold accB; simp only [decide_eq_false_iff_not]; exact fun ⟨Y, hY⟩ => h Y hY
theorem check_l {p : Api.Program} {fuel : Nat} (hf : 100000000 ≤ fuel) : ∀ l : List Api.Fun, (∀ f ∈ l, FunOk p f) → M.verify_Check_l fuel l = some (if l.all accB then 0 else 24)
  | [], _ => rfl
  | f :: l, h => by
    obtain ⟨b, s, a1, a2, a3⟩ := analyze_M (h f (List.mem_cons_self ..)) hf
    rw [M.verify_Check_l, a1, obind, List.all_cons]
    cases b with
    | false => rw [accB_f (a3 rfl)]; rfl
    | true =>
      obtain ⟨X, l1, _⟩ := a2 rfl
      rw [accB_t l1, Bool.true_and]
      exact check_l hf l fun g hg => h g (List.mem_cons_of_mem _ hg)
theorem rcheck_l {p : Api.Program} {fuel : Nat} (hf : 100000000 ≤ fuel) (hp : ∀ f ∈ p.Funs, FunOk p f) : ∀ n k i, i + n = p.Funs.length → n < k → M.ref48_Check_l1 fuel p k i = some (if (p.Funs.drop i).all accB then .inr () else .inl 24)
  | 0, k, i, hi, hk => by
    obtain ⟨k, rfl⟩ : ∃ g, k = g + 1 := ⟨k - 1, by omega⟩
    rw [M.ref48_Check_l1, ltI_f (by omega), List.drop_eq_nil_of_le (by omega)]; rfl
  | n + 1, k, i, hi, hk => by
    obtain ⟨k, rfl⟩ : ∃ g, k = g + 1 := ⟨k - 1, by omega⟩
    obtain ⟨f, h1, h2, h3⟩ := drop_split (s := p.Funs) (i := i) (by omega)
    rw [M.ref48_Check_l1, ltI_t (by omega), if_pos rfl, h1, obind, h2, List.all_cons]
    rcases RFun_M (hp f h3) hf with ⟨r1, r2⟩ | ⟨X, r1, r2⟩
    · rw [r1, accB_f r2]; rfl
    · rw [r1, accB_t r2, Bool.true_and]
      exact rcheck_l hf hp n k (i + 1) (by omega) (by omega)
noncomputable def checkS (p : Api.Program) : Int := if validS p = false then 1 else if p.Funs.all accB then 0 else 24
theorem Check_M (p : Api.Program) {fuel : Nat} (hf : 100000000 ≤ fuel) : M.verify_Check fuel p = some (checkS p) := by
  rw [M.verify_Check, Valid_M p (by omega), obind]
  unfold checkS
  cases hv : validS p with
  | false => rfl
  | true =>
    simp only [Bool.not_true, Bool.false_eq_true, if_false, Bool.true_eq_false]
    exact check_l hf _ fun f h => valid_fun hv h
theorem RCheck_M (p : Api.Program) {fuel : Nat} (hf : 100000000 ≤ fuel) : M.ref48_Check fuel p = some (checkS p) := by
  rw [M.ref48_Check, RValid_M p (by omega), obind]
  unfold checkS
  cases hv : validS p with
  | false => rfl
  | true =>
    simp only [Bool.not_true, Bool.false_eq_true, if_false, Bool.true_eq_false]
    have := valid_len hv
    rw [rcheck_l hf (fun f h => valid_fun hv h) p.Funs.length fuel 0 (by omega) (by omega), List.drop_zero]
    cases p.Funs.all accB <;> rfl
theorem VerifyChecks_true (p : Api.Program) (n : Int) (_ : Rng .i64 n) : ∃ fuel, M.law48_VerifyChecks fuel p n = some true := by
  refine ⟨100000000, ?_⟩
  obtain ⟨b, hb⟩ := big_M p (fuel := 100000000) (by omega)
  rw [M.law48_VerifyChecks, awake_M (by omega)]
  simp only [obind, Bool.not_true, Bool.false_eq_true, if_false, hb]
  cases b with
  | true => rfl
  | false =>
    obtain ⟨o, ho⟩ := knows p n (fuel := 100000000) (by omega)
    rw [ho.ref, Check_M p (by omega), RCheck_M p (by omega), ho.fn]
    simp only [obind, Bool.false_eq_true, if_false]
    rw [eqI_t rfl]
    cases o with
    | inl e => simp only [if_true, obind, kE, kO]; rw [eqI_t rfl]
    | inr X => rfl
theorem eqInt_refl (s : List Int) : ∀ n k i, i + n = s.length → n < k → M.slices_Equal_int_l1 s s k i = some (.inr ())
  | 0, k, i, hi, hk => by
    obtain ⟨k, rfl⟩ : ∃ g, k = g + 1 := ⟨k - 1, by omega⟩
    rw [M.slices_Equal_int_l1, ltI_f (by omega)]; rfl
  | n + 1, k, i, hi, hk => by
    obtain ⟨k, rfl⟩ : ∃ g, k = g + 1 := ⟨k - 1, by omega⟩
    obtain ⟨x, h1, h2, h3⟩ := drop_split (s := s) (i := i) (by omega)
    rw [M.slices_Equal_int_l1, ltI_t (by omega), if_pos rfl, h1, obind, obind, eqI_t rfl, if_neg (by simp)]
    exact eqInt_refl s n k (i + 1) (by omega) (by omega)
theorem EqInt_M (s : List Int) {fuel : Nat} (h : s.length < fuel) : M.slices_Equal_int fuel s s = some true := by
  rw [M.slices_Equal_int, eqI_t rfl, eqInt_refl s s.length fuel 0 (by omega) h]; rfl
theorem eqBool_refl (s : List Bool) : ∀ n k i, i + n = s.length → n < k → M.slices_Equal_bool_l1 s s k i = some (.inr ())
  | 0, k, i, hi, hk => by
    obtain ⟨k, rfl⟩ : ∃ g, k = g + 1 := ⟨k - 1, by omega⟩
    rw [M.slices_Equal_bool_l1, ltI_f (by omega)]; rfl
  | n + 1, k, i, hi, hk => by
    obtain ⟨k, rfl⟩ : ∃ g, k = g + 1 := ⟨k - 1, by omega⟩
    obtain ⟨x, h1, h2, h3⟩ := drop_split (s := s) (i := i) (by omega)
    rw [M.slices_Equal_bool_l1, ltI_t (by omega), if_pos rfl, h1, obind, obind, if_neg (by cases x <;> simp [eqB])]
    exact eqBool_refl s n k (i + 1) (by omega) (by omega)
theorem EqBool_M (s : List Bool) {fuel : Nat} (h : s.length < fuel) : M.slices_Equal_bool fuel s s = some true := by
  rw [M.slices_Equal_bool, eqI_t rfl, eqBool_refl s s.length fuel 0 (by omega) h]; rfl
theorem eqRows_refl (s : List (List Bool)) {fuel : Nat} (hs : ∀ r ∈ s, r.length < fuel) : ∀ n k i, i + n = s.length → n < k → M.slices_EqualFunc_x__bool_Equal___bool_bool__l1 fuel s s k i = some (.inr ())
  | 0, k, i, hi, hk => by
    obtain ⟨k, rfl⟩ : ∃ g, k = g + 1 := ⟨k - 1, by omega⟩
    rw [M.slices_EqualFunc_x__bool_Equal___bool_bool__l1, ltI_f (by omega)]; rfl
  | n + 1, k, i, hi, hk => by
    obtain ⟨k, rfl⟩ : ∃ g, k = g + 1 := ⟨k - 1, by omega⟩
    obtain ⟨x, h1, h2, h3⟩ := drop_split (s := s) (i := i) (by omega)
    rw [M.slices_EqualFunc_x__bool_Equal___bool_bool__l1, ltI_t (by omega), if_pos rfl, h1, obind, obind, EqBool_M x (hs x h3), obind, if_neg (by simp)]
    exact eqRows_refl s hs n k (i + 1) (by omega) (by omega)
theorem EqRows_M (s : List (List Bool)) {fuel : Nat} (hs : ∀ r ∈ s, r.length < fuel) (h : s.length < fuel) : M.slices_EqualFunc_x__bool_Equal___bool_bool_ fuel s s = some true := by
  rw [M.slices_EqualFunc_x__bool_Equal___bool_bool_, eqI_t rfl, eqRows_refl s hs s.length fuel 0 (by omega) h]; rfl
theorem VerifyTables_true (p : Api.Program) (n : Int) (_ : Rng .i64 n) : ∃ fuel, M.law48_VerifyTables fuel p n = some true := by
  refine ⟨100000000, ?_⟩
  obtain ⟨b, hb⟩ := big_M p (fuel := 100000000) (by omega)
  rw [M.law48_VerifyTables, awake_M (by omega)]
  simp only [obind, Bool.not_true, Bool.false_eq_true, if_false, hb]
  cases b with
  | true => rfl
  | false =>
    obtain ⟨o, ho⟩ := knows p n (fuel := 100000000) (by omega)
    rw [ho.ref, ho.rea, ho.dep, ho.set]
    simp only [obind, Bool.false_eq_true, if_false]
    cases o with
    | inl e =>
      simp only [kR, kD, kS, kO, noStates, eqI_t rfl, if_true]
      rw [EqBool_M [] (by simp), EqInt_M [] (by simp), EqRows_M [] (by simp) (by simp)]; rfl
    | inr X =>
      obtain ⟨_, _, f, h1, hF, hX⟩ := ho.res.inr
      have hl := hX.1.len
      have hn := hF.head.n1; have hL := hF.head.l1
      simp only [kR, kD, kS, kO, states, eqI_t rfl, if_true]
      rw [EqBool_M _ (by rw [List.length_map]; omega), EqInt_M _ (by rw [List.length_map]; omega), EqRows_M _ (fun r hr => ?_) (by rw [List.length_map]; omega)]
      · rfl
      · obtain ⟨q, hq, rfl⟩ := List.mem_map.1 hr
        cases q with
        | none => simp [outS]
        | some q =>
          obtain ⟨t, ht⟩ := List.getElem?_of_mem hq
          have := hX.1.row t q.1 q.2 ht
          simp only [outS]; omega
end Go.Proofs.Ythbjlmoaceaeeaa
set_option linter.unusedVariables false
set_option linter.unusedSimpArgs false
set_option maxRecDepth 100000
set_option maxHeartbeats 1000000
namespace Go.Proofs.Ythbjlmoaceaeeaa
open Go Go.Abs
theorem ways_l2 {v w : List Bool} (h : Sub v w) : ∀ n k i, i + n = v.length → n < k → M.law48_VerifyWays_l2 w v k i = some (.inr ())
  | 0, k, i, hi, hk => by
    obtain ⟨k, rfl⟩ : ∃ g, k = g + 1 := ⟨k - 1, by omega⟩
    rw [M.law48_VerifyWays_l2, ltI_f (by omega)]; rfl
  | n + 1, k, i, hi, hk => by
    obtain ⟨k, rfl⟩ : ∃ g, k = g + 1 := ⟨k - 1, by omega⟩
    obtain ⟨x, h1, h2, h3⟩ := drop_split (s := v) (i := i) (by omega)
    have ih := ways_l2 h n k (i + 1) (by omega) (by omega)
    have hl := h.1
    rw [M.law48_VerifyWays_l2, ltI_t (by omega), if_pos rfl, h1, obind]
    cases x with
    | false => simpa using ih
    | true =>
      have hw := h.2 i h1
      rw [if_pos rfl, ixC_some (by omega), obind, hw, obind, obind]
      simpa using ih
theorem flow_some {f : Api.Fun} {at1 : Nat} {d : Int} {v : List Bool} {d' : Int} {v' : List Bool} {ts : List Int} (h : flow f at1 d v = some (d', v', ts)) : ∃ x, f.Code[at1]? = some x ∧ (eff x).2.2 = 0 ∧ (eff x).1 ≤ d ∧ (x.Op = 9 → d = 1) ∧ d' = d - (eff x).1 + (eff x).2.1 ∧ d' ≤ f.Depth ∧
    (x.Op = 3 → v[x.A.toNat]? = some true) ∧ tgt f at1 x = (ts, 0) ∧ v' = (if x.Op = 4 ∨ x.Op = 13 then v.set x.A.toNat true else v) := by
  unfold flow at h
  split at h
  · cases h
  · rename_i i hi
    split at h
    · cases h
    · rename_i hc
      simp only [Option.some.injEq, Prod.mk.injEq] at h
      obtain ⟨rfl, rfl, rfl⟩ := h
      simp only [not_or] at hc
      obtain ⟨c1, c2, c3, c4, c5, c6⟩ := hc
      refine ⟨i, hi, Decidable.byContradiction c1, by omega, fun h9 => Decidable.byContradiction fun h => c3 ⟨h9, h⟩, rfl, by omega, fun h3 => Decidable.byContradiction fun h => c5 ⟨h3, h⟩, ?_, rfl⟩
      have : (tgt f at1 i).2 = 0 := Decidable.byContradiction c6
      rw [← this]
theorem modC_some {c l : Nat} (hl : 0 < l) (hc : c < 256) : modC .i64 (Int.tmod (c : Int) (l : Int)) (l : Int) = some ((c % l : Nat) : Int) := by
  have e : Int.tmod (c : Int) (l : Int) = ((c % l : Nat) : Int) := by
    rw [Int.ofNat_tmod]
  rw [e, modC, if_pos]
  have := Nat.mod_le c l
  refine ⟨by omega, ?_⟩
  simp only [inR]; omega
theorem ways_l1 {p : Api.Program} {f : Api.Fun} (hF : FunOk p f) {X : St} (hX : Cons f X) {cs : List UInt8} {fuel : Nat} (hfu : 100000 ≤ fuel) : ∀ (n k i : Nat) (w : List Bool) (at1 : Nat) (d : Int) (v : List Bool), i + n = cs.length → n < k →
    X[at1]? = some (some (d, v)) → Sub v w → ∃ o, M.law48_VerifyWays_l1 fuel cs f (X.map Option.isSome, 0) (X.map outD, 0) (X.map outS, 0) k w (at1 : Int) d i = some o ∧ ∀ b, o = .inl b → b = true
  | 0, k, i, w, at1, d, v, hi, hk, hx, hs => by
    obtain ⟨k, rfl⟩ : ∃ g, k = g + 1 := ⟨k - 1, by omega⟩
    rw [M.law48_VerifyWays_l1, ltI_f (by omega)]
    exact ⟨_, rfl, nofun⟩
  | n + 1, k, i, w, at1, d, v, hi, hk, hx, hs => by
    obtain ⟨k, rfl⟩ : ∃ g, k = g + 1 := ⟨k - 1, by omega⟩
    obtain ⟨c, hc, _, _⟩ := drop_split (s := cs) (i := i) (by omega)
    have hh := hF.head
    have h1 := hh.l0; have h2 := hh.l1; have h3 := hh.n1; have h4 := hh.d1
    have hrow := hX.row at1 d v hx
    obtain ⟨d', v', ts, hfl, hts⟩ := hX.sat at1 d v hx
    obtain ⟨x, x1, x2, x3, x4, x5, x6, x7, x8, x9⟩ := flow_some hfl
    obtain ⟨fl1, fl2, fl3, fl4, fl5⟩ := flow_len hfl
    have he := eff_ok x2
    have hwl := hs.1
    have hlt := (List.getElem?_eq_some_iff.1 hx).1
    have i1 : idx (X.map Option.isSome) (at1 : Int) = some true := idx_some (by omega) (by rw [Int.toNat_natCast, List.getElem?_map, hx]; rfl)
    have i2 : idx (X.map outD) (at1 : Int) = some d := idx_some (by omega) (by rw [Int.toNat_natCast, List.getElem?_map, hx]; rfl)
    have i3 : idx (X.map outS) (at1 : Int) = some v := idx_some (by omega) (by rw [Int.toNat_natCast, List.getElem?_map, hx]; rfl)
    have i4 : idx f.Code (at1 : Int) = some x := idx_some (by omega) (by simpa using x1)
    have hxr := hF.right at1 x x1
    rw [M.law48_VerifyWays_l1, ltI_t (by omega), if_pos rfl, hc]
    simp only [obind, i1, i2, i3, Bool.not_true, Bool.false_eq_true, if_false, eqI_t rfl]
    rw [eqI_t (show (v.length : Int) = f.Locals by omega)]
    simp only [Bool.not_true, Bool.false_eq_true, if_false]
    rw [ways_l2 hs v.length fuel 0 (by omega) (by omega)]
    simp only [obind, Sum.elim_inr, i4, effect_M, targets_M h3 x1 (show 20000 ≤ fuel by omega), x8]
    rw [eqI_t x2, eqI_t rfl]
    simp only [Bool.not_true, Bool.false_eq_true, if_false]
    rw [ltI_f (by omega), chk64 (n := d - (eff x).1) (by omega) (by omega)]
    simp only [Bool.false_eq_true, if_false, obind]
    rw [chk64 (n := d - (eff x).1 + (eff x).2.1) (by omega) (by omega)]
    simp only [obind]
    rw [ltI_f (by omega)]
    simp only [Bool.false_eq_true, if_false]
    have e9 : (if eqI x.Op 9 = true then some (!(eqI d 1)) else some false : Option Bool) = some false := by
      by_cases e : x.Op = 9
      · rw [eqI_t e, eqI_t (x4 e)]; rfl
      · rw [eqI_f e]; rfl
    have e3 : (if eqI x.Op 3 = true then (ixC w x.A).bind fun u209 => (w[Int.toNat x.A]?).bind fun x213 => if !x213 then some true else if eqI x.Op 9 = true then some (!(eqI d 1)) else some false
        else if eqI x.Op 9 = true then some (!(eqI d 1)) else some false : Option Bool) = some false := by
      rw [e9]
      by_cases e : x.Op = 3
      · have hA := rightS_A hxr (.inl e)
        rw [eqI_t e, if_pos rfl, ixC_some (by omega), obind, hs.2 _ (x7 e), obind]; rfl
      · rw [eqI_f e]; rfl
    rw [e3]
    simp only [obind, Bool.false_eq_true, if_false]
    rw [chk64 (n := (eff x).2.1 - (eff x).1) (by omega) (by omega), obind, chk64 (n := d + ((eff x).2.1 - (eff x).1)) (by omega) (by omega), obind]
    have ed : d + ((eff x).2.1 - (eff x).1) = d' := by omega
    rw [ed]
    have go : ∀ w', Sub v' w' → ∃ o, (if eqI (ts.length : Int) 0 = true then some (.inl true) else
        (modC .i64 (Int.tmod (c.toNat : Int) (ts.length : Int)) (ts.length : Int)).bind fun n279 => (idx ts n279).bind fun x283 => if ((ltI x283 0) || (leI (f.Code.length : Int) x283)) = true then some (.inl false) else
        M.law48_VerifyWays_l1 fuel cs f (X.map Option.isSome, 0) (X.map outD, 0) (X.map outS, 0) k w' x283 d' (i + 1) : Option ((Bool) ⊕ ((List Bool)))) = some o ∧ ∀ b, o = .inl b → b = true := fun w' hw' => by
      by_cases e : ts.length = 0
      · rw [eqI_t (by omega), if_pos rfl]
        exact ⟨_, rfl, fun b hb => by cases hb; rfl⟩
      · rw [eqI_f (by omega), if_neg (by simp), modC_some (by omega) (UInt8.toNat_lt c), obind]
        have hm : c.toNat % ts.length < ts.length := Nat.mod_lt _ (by omega)
        obtain ⟨t, t1, _, t2⟩ := drop_split (s := ts) (i := c.toNat % ts.length) hm
        have t3 := fl5 t t2
        rw [idx_some (by omega) (by rw [Int.toNat_natCast]; exact t1), obind, ltI_f t3.1, leI_f t3.2, if_neg (by simp)]
        obtain ⟨u, u1, u2⟩ := hts t t2
        have := ways_l1 hF hX (cs := cs) hfu n k (i + 1) w' t.toNat d' u (by omega) (by omega) u1 (u2.trans hw')
        rw [Int.toNat_of_nonneg t3.1] at this
        exact this
    by_cases c7 : x.Op = 4 ∨ x.Op = 13
    · have hA := rightS_A hxr (.inr c7)
      have e7 : ((eqI x.Op 4) || (eqI x.Op 13)) = true := by rcases c7 with c7 | c7 <;> rw [eqI_t c7] <;> simp
      rw [e7, if_pos rfl, ixC_some (by omega), obind]
      refine go _ ?_
      rw [x9, if_pos c7]
      exact sub_set hs _
    · have e7 : ((eqI x.Op 4) || (eqI x.Op 13)) = false := by rw [eqI_f (fun e => c7 (.inl e)), eqI_f (fun e => c7 (.inr e))]; rfl
      rw [e7, if_neg (by simp)]
      refine go _ ?_
      rw [x9, if_neg c7]
      exact hs
theorem VerifyWays_true (p : Api.Program) (n : Int) (cs : List UInt8) (_ : Rng .i64 n) (_ : cs.length * 1 ≤ 140737488351232 ∧ ∀ x ∈ cs, True) : ∃ fuel, M.law48_VerifyWays fuel p n cs = some true := by
  refine ⟨100000000, ?_⟩
  obtain ⟨b, hb⟩ := big_M p (fuel := 100000000) (by omega)
  rw [M.law48_VerifyWays, awake_M (by omega)]
  simp only [obind, Bool.not_true, Bool.false_eq_true, if_false, hb]
  cases b with
  | true => rfl
  | false =>
    simp only [Bool.false_eq_true, if_false]
    by_cases hc : 400 < cs.length
    · rw [ltI_t (by omega)]; rfl
    rw [ltI_f (by omega)]
    obtain ⟨o, ho⟩ := knows p n (fuel := 100000000) (by omega)
    rw [ho.rea, ho.dep, ho.set, ho.fn, RValid_M p (by omega)]
    simp only [obind, Bool.false_eq_true, if_false]
    cases o with
    | inl e =>
      have : e ≠ 0 := by
        have := ho.res
        unfold Res at this
        split at this
        · cases this; decide
        · split at this
          · cases this; decide
          · obtain ⟨f, _, ⟨h, _⟩ | ⟨X, h, _⟩⟩ := this
            · cases h; decide
            · cases h
      rw [show eqI (kE (.inl e)) 0 = false from eqI_f this]; rfl
    | inr X =>
      obtain ⟨hv, hn, f, h1, hF, hX⟩ := ho.res.inr
      have hlt := (List.getElem?_eq_some_iff.1 h1).1
      have hl := hX.1.len
      have hh := hF.head
      have l0 := hh.l0; have l1 := hh.l1
      simp only [kE, kR, kD, kS, eqI_t rfl, hv, Bool.not_true, Bool.false_eq_true, if_false]
      rw [ltI_f hn, leI_f (by omega)]
      simp only [Bool.false_eq_true, if_false, obind]
      rw [idx_some hn h1]
      simp only [obind, List.length_map, hl, eqI_t rfl, Bool.not_true, Bool.or_self, Bool.false_eq_true, if_false]
      rw [mkL_some ⟨by omega, by decide, by omega, by omega⟩, obind, ixC_some (by simp; omega), obind]
      obtain ⟨v, s1, s2⟩ := hX.1.start
      obtain ⟨o, o1, o2⟩ := ways_l1 hF hX.1 (cs := cs) (fuel := 100000000) (by omega) cs.length 100000000 0 ((List.replicate f.Locals.toNat false).set 0 true) 0 0 v (by omega) (by omega) s1 s2
      rw [show ((0 : Nat) : Int) = 0 from rfl] at o1
      rw [o1, obind]
      cases o with
      | inl b => rw [o2 b rfl]; rfl
      | inr w => rfl
end Go.Proofs.Ythbjlmoaceaeeaa
set_option linter.unusedVariables false
set_option linter.unusedSimpArgs false
set_option maxRecDepth 100000
set_option maxHeartbeats 1000000
namespace Go.Proofs.Ythbjlmoaceaeeaa
open Go Go.Abs
theorem rightS_congr {p q : Api.Program} (ht : q.Texts.length = p.Texts.length) (hl : q.Funs.length = p.Funs.length) (hc : ∀ i : Nat, (q.Funs[i]?).map Api.Fun.Captures = (p.Funs[i]?).map Api.Fun.Captures) (f : Api.Fun) (at1 : Nat) (x : Api.Instr) : rightS q f at1 x = rightS p f at1 x := by
  unfold rightS
  rw [ht, hl]
  have := hc x.A.toNat
  cases h1 : q.Funs[x.A.toNat]? with
  | none =>
    rw [h1] at this
    cases h2 : p.Funs[x.A.toNat]? with
    | none => rfl
    | some b => rw [h2] at this; cases this
  | some a =>
    rw [h1] at this
    cases h2 : p.Funs[x.A.toNat]? with
    | none => rw [h2] at this; cases this
    | some b =>
      rw [h2] at this
      simp only [Option.map_some, Option.some.injEq] at this
      simp only [this]
def withF (p : Api.Program) (n : Nat) (g : Api.Fun) : Api.Program := ⟨p.Funs.set n g, p.Texts, p.Main⟩
theorem withF_caps {p : Api.Program} {n : Nat} {f g : Api.Fun} (hf : p.Funs[n]? = some f) (hg : g.Captures = f.Captures) (i : Nat) : ((withF p n g).Funs[i]?).map Api.Fun.Captures = (p.Funs[i]?).map Api.Fun.Captures := by
  show ((p.Funs.set n g)[i]?).map _ = _
  by_cases e : i = n
  · subst e
    rw [List.getElem?_set_self (List.getElem?_eq_some_iff.1 hf).1, hf]
    simp [hg]
  · rw [List.getElem?_set_ne (Ne.symm e)]
theorem all_set {α : Type} {l : List α} {P : α → Bool} {n : Nat} {x : α} (h : l.all P = true) (hx : P x = true) : (l.set n x).all P = true := by
  rw [List.all_eq_true] at h ⊢
  intro y hy
  rcases List.mem_or_eq_of_mem_set hy with h1 | h1
  · exact h y h1
  · rw [h1]; exact hx
theorem withF_valid {p : Api.Program} {n : Nat} {f g : Api.Fun} (hv : validS p = true) (hf : p.Funs[n]? = some f) (hc : g.Captures = f.Captures) (hg : HeadOk g) (hr : ∀ (at1 : Nat) (x : Api.Instr), g.Code[at1]? = some x → rightS p g at1 x = true) : validS (withF p n g) = true := by
  have hcap := withF_caps hf hc
  have hlen : (withF p n g).Funs.length = p.Funs.length := by simp [withF]
  have hrs : ∀ h : Api.Fun, rightsS (withF p n g) h = rightsS p h := fun h => by
    unfold rightsS
    congr 1
    funext q
    exact rightS_congr (p := p) (q := withF p n g) rfl hlen hcap h q.2 q.1
  unfold validS at hv ⊢
  simp only [Bool.and_eq_true] at hv ⊢
  obtain ⟨h1, h2, h3, h4, h5, h6, h7⟩ := hv
  refine ⟨by rw [hlen]; exact h1, h2, h3, all_set h4 (headS_iff.2 hg), ?_, by rw [hlen]; exact h6, ?_⟩
  · have : (withF p n g).Funs.all (rightsS (withF p n g)) = (withF p n g).Funs.all (rightsS p) := by congr 1; funext h; exact hrs h
    rw [this]
    refine all_set h5 ?_
    unfold rightsS
    rw [List.all_eq_true]
    intro q hq
    have : g.Code[q.2]? = some q.1 := by
      have := List.mem_zipIdx_iff_getElem?.1 hq
      simpa using this
    exact hr q.2 q.1 this
  · have := hcap p.Main.toNat
    have e : (withF p n g).Main = p.Main := rfl
    rw [e]
    cases h8 : (withF p n g).Funs[p.Main.toNat]? with
    | none =>
      rw [h8] at this
      cases h9 : p.Funs[p.Main.toNat]? with
      | none => rw [h9] at h7; exact h7
      | some b => rw [h9] at this; cases this
    | some a =>
      rw [h8] at this
      cases h9 : p.Funs[p.Main.toNat]? with
      | none => rw [h9] at this; cases this
      | some b =>
        rw [h9] at this h7
        simp only [Option.map_some, Option.some.injEq] at this
        dsimp only
        rw [this]; exact h7
def deep (f : Api.Fun) (d : Int) : Api.Fun := ⟨f.Captures, f.Locals, d, f.Code⟩
theorem deep_valid {p : Api.Program} {n : Nat} {f : Api.Fun} (hv : validS p = true) (hf : p.Funs[n]? = some f) {d : Int} (hd : 0 ≤ d ∧ d ≤ 4096) : validS (withF p n (deep f d)) = true := by
  have hF := valid_fun hv (List.mem_of_getElem? hf)
  have hh := hF.head
  exact withF_valid hv hf rfl ⟨hh.c0, hh.c1, hh.l0, hh.l1, hd.1, hd.2, hh.n0, hh.n1⟩ fun at1 x hx => hF.right at1 x hx
theorem flow_deep {f : Api.Fun} {at1 : Nat} {d : Int} {v : List Bool} {d' : Int} {v' : List Bool} {ts : List Int} {e : Int} (h : flow f at1 d v = some (d', v', ts)) (hd : d' ≤ e) : flow (deep f e) at1 d v = some (d', v', ts) := by
  unfold flow at h ⊢
  have e1 : (deep f e).Code = f.Code := rfl
  rw [e1]
  split at h
  · cases h
  · rename_i i hi
    split at h
    · cases h
    · rename_i hc
      simp only [Option.some.injEq, Prod.mk.injEq] at h
      obtain ⟨rfl, rfl, rfl⟩ := h
      simp only [not_or] at hc
      obtain ⟨c1, c2, c3, c4, c5, c6⟩ := hc
      rw [if_neg]
      · rfl
      · simp only [not_or]
        exact ⟨c1, c2, c3, by show ¬ e < _; omega, c5, c6⟩
theorem cons_deep {f : Api.Fun} {X : St} (h : Cons f X) {e : Int} (he : ∀ (at1 : Nat) (d : Int) (v : List Bool) (d' : Int) (v' : List Bool) (ts : List Int), X[at1]? = some (some (d, v)) → flow f at1 d v = some (d', v', ts) → d' ≤ e) : Cons (deep f e) X :=
  ⟨⟨h.len, h.row⟩, h.start, fun at1 d v hx => by
    obtain ⟨d', v', ts, h1, h2⟩ := h.sat at1 d v hx
    exact ⟨d', v', ts, flow_deep h1 (he at1 d v d' v' ts hx h1), h2⟩⟩
theorem flow_undeep {f : Api.Fun} {at1 : Nat} {d : Int} {v : List Bool} {d' : Int} {v' : List Bool} {ts : List Int} {e : Int} (h : flow (deep f e) at1 d v = some (d', v', ts)) (he : e ≤ f.Depth) : flow f at1 d v = some (d', v', ts) := by
  have h2 := flow_len h
  have h3 : d' ≤ e := h2.2.2.2.1
  have := flow_deep h (e := f.Depth) (by omega)
  exact this
theorem cons_undeep {f : Api.Fun} {Y : St} {e : Int} (h : Cons (deep f e) Y) (he : e ≤ f.Depth) : Cons f Y :=
  ⟨⟨h.len, h.row⟩, h.start, fun at1 d v hx => by
    obtain ⟨d', v', ts, h1, h2⟩ := h.sat at1 d v hx
    exact ⟨d', v', ts, flow_undeep h1 he, h2⟩⟩
theorem with_M {p : Api.Program} {n : Int} {f : Api.Fun} (hn : 0 ≤ n) (hv : validS p = true) (hf : p.Funs[n.toNat]? = some f) {d : Int} (hd : 0 ≤ d ∧ d ≤ 4096) {fuel : Nat} (hfu : 100000000 ≤ fuel) :
    (∀ X, Cons (deep f d) X → M.law48_VerifyDepths_1 fuel d p n = some 0) ∧ ((∀ Y, ¬ Cons (deep f d) Y) → M.law48_VerifyDepths_1 fuel d p n = some 24) := by
  have hlt := (List.getElem?_eq_some_iff.1 hf).1
  have hvl := valid_len hv
  obtain ⟨o, ho⟩ := knows (withF p n.toNat (deep f d)) n hfu
  have hv' := deep_valid hv hf hd
  have hw : M.law48_VerifyDepths_1 fuel d p n = some (kE o) := by
    rw [M.law48_VerifyDepths_1, M.slices_Clone_api_Fun]
    have hne : neC p.Funs = some () := by
      cases h : p.Funs with
      | nil => rw [h] at hlt; simp at hlt
      | cons a l => rfl
    rw [hne, obind, clC_some ⟨by omega, by decide, by omega⟩, obind, obind, ixC_some ⟨hn, by omega⟩, obind, hf, obind]
    have := ho.fn
    unfold withF deep at this
    rw [this]; rfl
  have hf' : (withF p n.toNat (deep f d)).Funs[n.toNat]? = some (deep f d) := List.getElem?_set_self hlt
  have hlen : (withF p n.toNat (deep f d)).Funs.length = p.Funs.length := by simp [withF]
  have hres := ho.res
  unfold Res at hres
  rw [if_neg (by simp [hv']), if_neg (by rw [hlen]; omega)] at hres
  obtain ⟨g, g1, g2⟩ := hres
  rw [hf'] at g1; cases g1
  rw [hw]
  rcases g2 with ⟨rfl, g2⟩ | ⟨X, rfl, g2⟩
  · exact ⟨fun X hX => (g2 X hX).elim, fun _ => rfl⟩
  · exact ⟨fun _ _ => rfl, fun h => (h X g2.1).elim⟩
theorem maxI_eq (a b : Int) : maxI a b = max a b := by unfold maxI; split <;> omega
theorem most_l {f : Api.Fun} {X : St} (hX : Cons f X) (hD : f.Depth ≤ 4096) : ∀ (n k i : Nat) (m : Int), i + n = f.Code.length → n < k → 0 ≤ m → m ≤ f.Depth ∨ m = 0 → (m = 0 ∨ ∃ (j : Nat) (d : Int) (v : List Bool) (v' : List Bool) (ts : List Int), X[j]? = some (some (d, v)) ∧ flow f j d v = some (m, v', ts)) →
    ∃ m', M.law48_VerifyDepths_l1 (X.map outD, 0) f k m i = some (.inr m') ∧ m ≤ m' ∧ 0 ≤ m' ∧ (m' ≤ f.Depth ∨ m' = 0) ∧ (m' = 0 ∨ ∃ (j : Nat) (d : Int) (v : List Bool) (v' : List Bool) (ts : List Int), X[j]? = some (some (d, v)) ∧ flow f j d v = some (m', v', ts)) ∧
      (∀ (j : Nat) (d : Int) (v : List Bool) (d' : Int) (v' : List Bool) (ts : List Int), i ≤ j → X[j]? = some (some (d, v)) → flow f j d v = some (d', v', ts) → d' ≤ m')
  | 0, k, i, m, hi, hk, h0, h1, h2 => by
    obtain ⟨k, rfl⟩ : ∃ g, k = g + 1 := ⟨k - 1, by omega⟩
    rw [M.law48_VerifyDepths_l1, ltI_f (by omega)]
    refine ⟨m, rfl, Int.le_refl _, h0, h1, h2, fun j d v d' v' ts hj hx _ => ?_⟩
    have := (List.getElem?_eq_some_iff.1 hx).1
    have := hX.len
    omega
  | n + 1, k, i, m, hi, hk, h0, h1, h2 => by
    obtain ⟨k, rfl⟩ : ∃ g, k = g + 1 := ⟨k - 1, by omega⟩
    obtain ⟨x, x1, _, _⟩ := drop_split (s := f.Code) (i := i) (by omega)
    have hl := hX.len
    obtain ⟨o, o1, _, _⟩ := drop_split (s := X) (i := i) (by omega)
    have od : (X.map outD)[i]? = some (outD o) := by rw [List.getElem?_map, o1]; rfl
    rw [M.law48_VerifyDepths_l1, ltI_t (by omega), if_pos rfl, x1, obind, od, obind]
    cases o with
    | none =>
      rw [if_pos (show ltI (outD none) 0 = true from rfl)]
      obtain ⟨m', k1, k2, k3, k4, k5, k6⟩ := most_l hX hD n k (i + 1) m (by omega) (by omega) h0 h1 h2
      refine ⟨m', k1, k2, k3, k4, k5, fun j d v d' v' ts hj hx hfl => ?_⟩
      by_cases e : j = i
      · subst e; rw [o1] at hx; cases hx
      · exact k6 j d v d' v' ts (by omega) hx hfl
    | some q =>
      obtain ⟨d, v⟩ := q
      have hrow := hX.row i d v o1
      obtain ⟨d', v', ts, hfl, _⟩ := hX.sat i d v o1
      obtain ⟨y, y1, y2, y3, _, y5, y6, _⟩ := flow_some hfl
      rw [x1] at y1; cases y1
      have he := eff_ok y2
      have hfl2 := flow_len hfl
      rw [if_neg (show ¬ ltI (outD (some (d, v))) 0 = true from by rw [show outD (some (d, v)) = d from rfl, ltI_f hrow.2.1]; simp), effect_M, obind, eqI_t y2, if_neg (by simp)]
      rw [show outD (some (d, v)) = d from rfl, chk64 (n := d - (eff x).1) (by omega) (by omega), obind, chk64 (n := d - (eff x).1 + (eff x).2.1) (by omega) (by omega), obind, ← y5, maxI_eq]
      obtain ⟨m', k1, k2, k3, k4, k5, k6⟩ := most_l hX hD n k (i + 1) (max m d') (by omega) (by omega) (by omega) (by omega) (by
        rcases Int.le_total m d' with h | h
        · rw [show max m d' = d' by omega]; exact .inr ⟨i, d, v, v', ts, o1, hfl⟩
        · rw [show max m d' = m by omega]; exact h2)
      refine ⟨m', k1, by omega, k3, k4, k5, fun j d2 v2 d3 v3 ts3 hj hx hfl3 => ?_⟩
      by_cases e : j = i
      · subst e
        rw [o1] at hx
        simp only [Option.some.injEq, Prod.mk.injEq] at hx
        obtain ⟨rfl, rfl⟩ := hx
        rw [hfl] at hfl3
        simp only [Option.some.injEq, Prod.mk.injEq] at hfl3
        obtain ⟨rfl, _, _⟩ := hfl3
        omega
      · exact k6 j d2 v2 d3 v3 ts3 (by omega) hx hfl3
theorem inl_ne0 {p : Api.Program} {n e : Int} (h : Res p n (.inl e)) : e ≠ 0 := by
  unfold Res at h
  split at h
  · cases h; decide
  · split at h
    · cases h; decide
    · obtain ⟨f, _, ⟨h, _⟩ | ⟨X, h, _⟩⟩ := h
      · cases h; decide
      · cases h
theorem VerifyDepths_true (p : Api.Program) (n : Int) (more : UInt8) (_ : Rng .i64 n) : ∃ fuel, M.law48_VerifyDepths fuel p n more = some true := by
  refine ⟨100000000, ?_⟩
  obtain ⟨b, hb⟩ := big_M p (fuel := 100000000) (by omega)
  rw [M.law48_VerifyDepths, awake_M (by omega)]
  simp only [obind, Bool.not_true, Bool.false_eq_true, if_false, hb]
  cases b with
  | true => rfl
  | false =>
    obtain ⟨o, ho⟩ := knows p n (fuel := 100000000) (by omega)
    rw [ho.dep, ho.fn]
    simp only [obind, Bool.false_eq_true, if_false]
    cases o with
    | inl e => rw [show eqI (kE (.inl e)) 0 = false from eqI_f (inl_ne0 ho.res)]; rfl
    | inr X =>
      obtain ⟨hv, hn, f, h1, hF, hX⟩ := ho.res.inr
      have hlt := (List.getElem?_eq_some_iff.1 h1).1
      have hl := hX.1.len
      have hh := hF.head
      have l0 := hh.d0; have l1 := hh.d1; have l2 := hh.n1
      simp only [kE, kD, eqI_t rfl, Bool.not_true, Bool.false_eq_true, if_false]
      rw [ltI_f hn, leI_f (by omega)]
      simp only [Bool.false_eq_true, if_false, obind]
      rw [idx_some hn h1]
      simp only [obind, List.length_map, hl, eqI_t rfl, Bool.not_true, Bool.false_eq_true, if_false]
      obtain ⟨m, m1, _, m2, m3, m4, m5⟩ := most_l hX.1 l1 f.Code.length 100000000 0 0 (by omega) (by omega) (by omega) (.inr rfl) (.inl rfl)
      rw [m1]
      simp only [obind, Sum.elim_inr]
      have hmore : more.toNat < 256 := UInt8.toNat_lt more
      rw [chk64 (by omega) (by omega)]
      simp only [obind]
      have hm : 0 ≤ m ∧ m ≤ 4096 := by omega
      have e2 := (with_M hn hv h1 hm (fuel := 100000000) (by omega)).1 X (cons_deep hX.1 fun j d v d' v' ts hx hfl => m5 j d v d' v' ts (by omega) hx hfl)
      have e1 : (if leI (f.Depth + (more.toNat : Int)) 4096 = true then (M.law48_VerifyDepths_1 100000000 (f.Depth + (more.toNat : Int)) p n).bind fun v94 => some (!(eqI v94 0)) else some false : Option Bool) = some false := by
        by_cases h : f.Depth + (more.toNat : Int) ≤ 4096
        · rw [leI_t h, if_pos rfl, (with_M hn hv h1 ⟨by omega, h⟩ (fuel := 100000000) (by omega)).1 X (cons_deep hX.1 fun j d v d' v' ts hx hfl => by have := (flow_len hfl).2.2.2.1; omega), obind]; rfl
        · rw [leI_f (by omega)]; rfl
      rw [e1, e2]
      simp only [obind, Bool.false_eq_true, if_false, eqI_t rfl, if_true]
      by_cases h0 : m = 0
      · rw [eqI_t h0]; rfl
      rw [eqI_f h0]
      simp only [Bool.false_eq_true, if_false]
      rw [chk64 (by omega) (by omega)]
      simp only [obind]
      rw [(with_M hn hv h1 (d := m - 1) (by omega) (fuel := 100000000) (by omega)).2 fun Y hY => ?_]
      · rfl
      · rcases m4 with h | ⟨j, d, v, v', ts, hx, hfl⟩
        · exact h0 h
        · have hY' := cons_undeep hY (by omega)
          obtain ⟨w, w1, w2⟩ := (hX.2 Y hY').2 j d v hx
          obtain ⟨d2, v2, ts2, k1, _⟩ := hY.sat j d w w1
          have k2 := (flow_len k1).2.2.2.1
          have k3 : d2 ≤ m - 1 := k2
          obtain ⟨v3, k4, _⟩ := flow_mono w2 (flow_undeep k1 (by omega))
          rw [hfl] at k4
          simp only [Option.some.injEq, Prod.mk.injEq] at k4
          omega
end Go.Proofs.Ythbjlmoaceaeeaa
