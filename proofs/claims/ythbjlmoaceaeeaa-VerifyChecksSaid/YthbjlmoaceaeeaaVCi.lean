/- For every input the law VerifyChecks returns true. Part 9 of 13. No condition. -/
import Derived.Test.YthbjlmoaceaeeaaVCh
set_option linter.unusedVariables false
set_option linter.unusedSimpArgs false
set_option maxRecDepth 100000
set_option maxHeartbeats 1000000
namespace Go.Proofs.Ythbjlmoaceaeeaa
open Go Go.Abs
theorem law48_awake_ok (fuel : Nat) (r : Bool) (h : M.law48_awake fuel = some r) : Pure Try.prog 13 [] (.bool r) := by
  rw [M.law48_awake] at h
  refine pure_of_body Try.func13 (by rfl) (by rfl) (by simp) (by simp) (by simp) ?_
  refine cut 41 0 [] [] ?_ ?_
  · refine st ?_
    simp
  obtain ⟨v1, q2, h⟩ := bs h
  refine cut 41 0 [(1, .mptr 0 0)] [(Api.Program.c v1)] ?_ ?_
  · refine st ?_
    simp
    have r48 := law48_one_ok 1 1 [(Api.Instr.mk 1 7 0), (Api.Instr.mk 9 0 0)] v1 q2
    try simp [] at r48
    refine callPure r48 (by simp) rfl ?_
    simp
  obtain ⟨v3, q4, h⟩ := bs h
  refine cut 41 0 [(1, .mptr 0 0), (2, .sl (v3.1.map (cI .i64))), (3, .int .i64 v3.2)] [(Api.Program.c v1)] ?_ ?_
  · refine st ?_
    simp
    have r47 := verify_Depths_ok fuel v1 0 v3 q4
    try simp [] at r47
    refine callPure r47 (by simp) rfl ?_
    simp
  obtain ⟨b31, q32, h⟩ := bs h
  refine cut 41 0 [(0, .bool b31)] [(Api.Program.c v1)] ?_ ?_
  · obtain ⟨v5, q6, q32⟩ := bs q32
    rcases sp q32 with ⟨g7, q32⟩ | ⟨g7, q32⟩
    · have c8 := eqT g7
      rcases sp q32 with ⟨g9, q32⟩ | ⟨g9, q32⟩
      · have c10 := eqT g9
        obtain ⟨l11, q12, q32⟩ := bs q32
        obtain ⟨q13, q14⟩ := lit_ok q12
        obtain ⟨v15, q16, q32⟩ := bs q32
        rcases sp q32 with ⟨g17, q32⟩ | ⟨g17, q32⟩
        · obtain ⟨v18, q19, q32⟩ := bs q32
          obtain ⟨v20, q21, q32⟩ := bs q32
          rcases sp q32 with ⟨g22, q32⟩ | ⟨g22, q32⟩
          · have c23 := eqT g22
            obtain ⟨v24, q25, q32⟩ := bs q32
            obtain ⟨v26, q27, q32⟩ := bs q32
            obtain rfl := oi q32
            refine st ?_
            simp [g7, g9, q13, q14, g17, g22]
            have r33 := verify_Check_ok fuel v1 v5 q6
            try simp [g7, g9, q13, q14, g17, g22] at r33
            refine callPure r33 (by simp) rfl ?_
            simp [g7, g9, q13, q14, g17, g22]
            have r34 := slices_Equal_int_ok fuel v3.1 l11 v15 q16
            try simp [g7, g9, q13, q14, g17, g22] at r34
            refine callPure r34 (by simp) rfl ?_
            simp [g7, g9, q13, q14, g17, g22]
            have r35 := law48_one_ok 1 1 [(Api.Instr.mk 1 7 0), (Api.Instr.mk 15 1 0)] v18 q19
            try simp [g7, g9, q13, q14, g17, g22] at r35
            refine callPure r35 (by simp) rfl ?_
            simp [g7, g9, q13, q14, g17, g22]
            have r36 := verify_Check_ok fuel v18 v20 q21
            try simp [g7, g9, q13, q14, g17, g22] at r36
            refine callPure r36 (by simp) rfl ?_
            simp [g7, g9, q13, q14, g17, g22]
            have r37 := law48_one_ok 2 1 [(Api.Instr.mk 3 1 0), (Api.Instr.mk 9 0 0)] v24 q25
            try simp [g7, g9, q13, q14, g17, g22] at r37
            refine callPure r37 (by simp) rfl ?_
            simp [g7, g9, q13, q14, g17, g22]
            have r38 := verify_Check_ok fuel v24 v26 q27
            try simp [g7, g9, q13, q14, g17, g22] at r38
            refine callPure r38 (by simp) rfl ?_
            simp [g7, g9, q13, q14, g17, g22]
          have c28 := eqF g22
          obtain rfl := oi q32
          refine st ?_
          simp [g7, g9, q13, q14, g17, g22]
          have r39 := verify_Check_ok fuel v1 v5 q6
          try simp [g7, g9, q13, q14, g17, g22] at r39
          refine callPure r39 (by simp) rfl ?_
          simp [g7, g9, q13, q14, g17, g22]
          have r40 := slices_Equal_int_ok fuel v3.1 l11 v15 q16
          try simp [g7, g9, q13, q14, g17, g22] at r40
          refine callPure r40 (by simp) rfl ?_
          simp [g7, g9, q13, q14, g17, g22]
          have r41 := law48_one_ok 1 1 [(Api.Instr.mk 1 7 0), (Api.Instr.mk 15 1 0)] v18 q19
          try simp [g7, g9, q13, q14, g17, g22] at r41
          refine callPure r41 (by simp) rfl ?_
          simp [g7, g9, q13, q14, g17, g22]
          have r42 := verify_Check_ok fuel v18 v20 q21
          try simp [g7, g9, q13, q14, g17, g22] at r42
          refine callPure r42 (by simp) rfl ?_
          simp [g7, g9, q13, q14, g17, g22]
        obtain rfl := oi q32
        refine st ?_
        simp [g7, g9, q13, q14, g17]
        have r43 := verify_Check_ok fuel v1 v5 q6
        try simp [g7, g9, q13, q14, g17] at r43
        refine callPure r43 (by simp) rfl ?_
        simp [g7, g9, q13, q14, g17]
        have r44 := slices_Equal_int_ok fuel v3.1 l11 v15 q16
        try simp [g7, g9, q13, q14, g17] at r44
        refine callPure r44 (by simp) rfl ?_
        simp [g7, g9, q13, q14, g17]
      have c29 := eqF g9
      obtain rfl := oi q32
      refine st ?_
      simp [g7, g9]
      have r45 := verify_Check_ok fuel v1 v5 q6
      try simp [g7, g9] at r45
      refine callPure r45 (by simp) rfl ?_
      simp [g7, g9]
    have c30 := eqF g7
    obtain rfl := oi q32
    refine st ?_
    simp [g7]
    have r46 := verify_Check_ok fuel v1 v5 q6
    try simp [g7] at r46
    refine callPure r46 (by simp) rfl ?_
    simp [g7]
  refine awp_ret ?_
  obtain rfl := oi h
  simp
end Go.Proofs.Ythbjlmoaceaeeaa
set_option linter.unusedVariables false
set_option linter.unusedSimpArgs false
set_option maxRecDepth 100000
set_option maxHeartbeats 1000000
namespace Go.Proofs.Ythbjlmoaceaeeaa
open Go Go.Abs
theorem law48_big_1_ok (s1 : (List UInt8)) (r : Bool) (h : M.law48_big_1 s1 = some r) : Pure Try.prog 47 [.str s1] (.bool r) := by
  rw [M.law48_big_1] at h
  refine pure_of_body Try.func47 (by rfl) (by rfl) (by simp) (by simp) (by simp) ?_
  refine cut 6 0 [(0, .str s1)] [] ?_ ?_
  · refine st ?_
    simp
  refine cut 6 0 [(2, .bool (ltI 1000 (s1.length : Int)))] [] ?_ ?_
  · refine st ?_
    simp
  refine awp_ret ?_
  obtain rfl := oi h
  simp
end Go.Proofs.Ythbjlmoaceaeeaa
set_option linter.unusedVariables false
set_option linter.unusedSimpArgs false
set_option maxRecDepth 100000
set_option maxHeartbeats 1000000
namespace Go.Proofs.Ythbjlmoaceaeeaa
open Go Go.Abs
theorem slices_IndexFunc_string_big_1_ok (fuel : Nat) (s1 : (List (List UInt8))) (r : Int) (h : M.slices_IndexFunc_string_big_1 fuel s1 = some r) : Pure Try.prog 84 [.sl (s1.map cS), .fn (.func 47) [] []] (.int .i64 r) := by
  rw [M.slices_IndexFunc_string_big_1] at h
  refine pure_of_body Try.func84 (by rfl) (by rfl) (by simp) (by simp) (by simp) ?_
  refine cut 19 0 [(0, .sl (s1.map cS)), (1, .fn (.func 47) [] [])] [] ?_ ?_
  · refine st ?_
    simp
  refine awp_seq ?_
  refine cut 19 0 [(0, .sl (s1.map cS)), (1, .fn (.func 47) [] []), (7, .int .i64 (s1.length : Int)), (8, .int .i64 0)] [] ?_ ?_
  · refine st ?_
    simp
  refine awp_block ?_
  obtain ⟨o4, l5, h⟩ := bs h
  refine awp_inv (fun p : Nat × Nat => mkS 19 0 [(0, .sl (s1.map cS)), (1, .fn (.func 47) [] []), (7, .int .i64 (s1.length : Int)), (8, .int .i64 ((p.2 : Nat) : Int))] []) (fun p => M.slices_IndexFunc_string_big_1_l1 s1 p.1 p.2 = some o4) (fun p => p.1) (fuel, 0) l5 (le_mkS (by simp)) ?_
  rintro ⟨k6, i2⟩ l5
  try dsimp only at l5 ⊢
  cases k6 with
  | zero =>
    rw [M.slices_IndexFunc_string_big_1_l1] at l5; cases l5
  | succ k7 =>
    rw [M.slices_IndexFunc_string_big_1_l1] at l5
    refine cut 19 0 [(0, .sl (s1.map cS)), (1, .fn (.func 47) [] []), (7, .int .i64 (s1.length : Int)), (8, .int .i64 ((i2 : Nat) : Int)), (9, .bool (ltI ((i2 : Nat) : Int) (s1.length : Int)))] [] ?_ ?_
    · refine st ?_
      simp
    refine awp_seq ?_
    rcases sp l5 with ⟨g8, l5⟩ | ⟨g8, l5⟩
    · have c9 := ltT g8
      refine condT rfl g8 ?_
      refine factL 0 rfl fun f10 => ?_
      rw [List.length_map] at f10
      refine awp_skip ?_
      refine seq_eq ?_
      refine awp_seq ?_
      refine awp_block ?_
      refine cut 19 0 [(0, .sl (s1.map cS)), (1, .fn (.func 47) [] []), (5, .int .i64 ((i2 : Nat) : Int)), (7, .int .i64 (s1.length : Int)), (8, .int .i64 ((i2 : Nat) : Int))] [] ?_ ?_
      · refine st ?_
        simp
      obtain ⟨x11, q12, l5⟩ := bs l5
      obtain ⟨v13, q14, l5⟩ := bs l5
      refine cut 19 0 [(0, .sl (s1.map cS)), (1, .fn (.func 47) [] []), (5, .int .i64 ((i2 : Nat) : Int)), (7, .int .i64 (s1.length : Int)), (8, .int .i64 ((i2 : Nat) : Int)), (16, .bool v13)] [] ?_ ?_
      · refine st ?_
        simp [q12]
        have r17 := law48_big_1_ok x11 v13 q14
        try simp [q12] at r17
        refine callPure r17 (by simp) rfl ?_
        simp [q12]
      rcases sp l5 with ⟨g15, l5⟩ | ⟨g15, l5⟩
      · refine condT rfl g15 ?_
        refine cut 19 0 [(4, .int .i64 ((i2 : Nat) : Int))] [] ?_ ?_
        · refine st ?_
          simp
        refine awp_ret ?_
        refine ret_blk ?_
        refine ret_seq ?_
        replace h := retL l5 h
        refine ret_seq ?_
        refine ret_blk ?_
        refine ret_seq ?_
        obtain rfl := oi h
        simp
      refine condF rfl g15 ?_
      refine awp_skip ?_
      refine blk_n ?_
      refine seq_eq ?_
      have q16 : Rng .i64 (((i2 : Nat) : Int) + 1) := by simp only [Rng, inR]; omega
      try simp at q16
      refine last 19 0 [(0, .sl (s1.map cS)), (1, .fn (.func 47) [] []), (7, .int .i64 (s1.length : Int)), (8, .int .i64 ((i2 + 1 : Nat) : Int))] [] ?_ fun zz hs => ?_
      · refine st ?_
        simp [q16]
      exact ⟨(k7, i2 + 1), hs, l5, by simp⟩
    have c18 := ltF g8
    refine condF rfl g8 ?_
    refine factL 0 rfl fun f19 => ?_
    rw [List.length_map] at f19
    refine awp_exit ?_
    refine exit_seq ?_
    rcases o4 with o4 | o3
    · cases l5
    have q20 := Sum.inr.inj (Option.some.inj l5)
    replace h := elimR h
    refine exit_seq ?_
    refine exit_blk ?_
    refine seq_le (t := mkS 19 0 [] []) ?_ (le_mkS (by simp []))
    refine cut 19 0 [(4, .int .i64 (-1))] [] ?_ ?_
    · refine st ?_
      simp
    refine awp_ret ?_
    obtain rfl := oi h
    simp
end Go.Proofs.Ythbjlmoaceaeeaa
set_option linter.unusedVariables false
set_option linter.unusedSimpArgs false
set_option maxRecDepth 100000
set_option maxHeartbeats 1000000
namespace Go.Proofs.Ythbjlmoaceaeeaa
open Go Go.Abs
theorem slices_ContainsFunc_string_big_1_ok (fuel : Nat) (s1 : (List (List UInt8))) (r : Bool) (h : M.slices_ContainsFunc_string_big_1 fuel s1 = some r) : Pure Try.prog 46 [.sl (s1.map cS), .fn (.func 47) [] []] (.bool r) := by
  rw [M.slices_ContainsFunc_string_big_1] at h
  refine pure_of_body Try.func46 (by rfl) (by rfl) (by simp) (by simp) (by simp) ?_
  refine cut 9 0 [(0, .sl (s1.map cS)), (1, .fn (.func 47) [] [])] [] ?_ ?_
  · refine st ?_
    simp
  obtain ⟨v2, q3, h⟩ := bs h
  refine cut 9 0 [(4, .bool (leI 0 v2))] [] ?_ ?_
  · refine st ?_
    simp
    have r4 := slices_IndexFunc_string_big_1_ok fuel s1 v2 q3
    try simp [] at r4
    refine callPure r4 (by simp) rfl ?_
    simp
  refine awp_ret ?_
  obtain rfl := oi h
  simp
end Go.Proofs.Ythbjlmoaceaeeaa
set_option linter.unusedVariables false
set_option linter.unusedSimpArgs false
set_option maxRecDepth 100000
set_option maxHeartbeats 1000000
namespace Go.Proofs.Ythbjlmoaceaeeaa
open Go Go.Abs
theorem law48_big_2_ok (f1 : Api.Fun) (r : Bool) (h : M.law48_big_2 f1 = some r) : Pure Try.prog 49 [.agg [.int .i64 f1.Captures, .int .i64 f1.Locals, .int .i64 f1.Depth, .sl (f1.Code.map Api.Instr.c)]] (.bool r) := by
  rw [M.law48_big_2] at h
  refine pure_of_body Try.func49 (by rfl) (by rfl) (by simp) (by simp) (by simp) ?_
  refine cut 17 0 [(1, .mptr 0 0)] [(Api.Fun.c f1)] ?_ ?_
  · refine st ?_
    simp
  refine cut 17 0 [(2, .bool ((ltI 200 (f1.Code.length : Int)) || ((ltI 60 f1.Locals) && (leI f1.Locals 4096))))] [(Api.Fun.c f1)] ?_ ?_
  · rcases tf (ltI 200 (f1.Code.length : Int)) with g2 | g2
    · have c3 := ltT g2
      refine factCL 0 3 rfl rfl rfl fun f4 => ?_
      rw [List.length_map] at f4
      refine st ?_
      simp [g2]
    have c5 := ltF g2
    refine factCL 0 3 rfl rfl rfl fun f6 => ?_
    rw [List.length_map] at f6
    rcases tf (ltI 60 f1.Locals) with g7 | g7
    · have c8 := ltT g7
      refine st ?_
      simp [g2, g7]
    have c9 := ltF g7
    refine st ?_
    simp [g2, g7]
  refine awp_ret ?_
  obtain rfl := oi h
  simp
end Go.Proofs.Ythbjlmoaceaeeaa
set_option linter.unusedVariables false
set_option linter.unusedSimpArgs false
set_option maxRecDepth 100000
set_option maxHeartbeats 1000000
namespace Go.Proofs.Ythbjlmoaceaeeaa
open Go Go.Abs
theorem slices_IndexFunc_api_Fun_big_2_ok (fuel : Nat) (s1 : (List Api.Fun)) (r : Int) (h : M.slices_IndexFunc_api_Fun_big_2 fuel s1 = some r) : Pure Try.prog 85 [.sl (s1.map Api.Fun.c), .fn (.func 49) [] []] (.int .i64 r) := by
  rw [M.slices_IndexFunc_api_Fun_big_2] at h
  refine pure_of_body Try.func85 (by rfl) (by rfl) (by simp) (by simp) (by simp) ?_
  refine cut 19 0 [(0, .sl (s1.map Api.Fun.c)), (1, .fn (.func 49) [] [])] [] ?_ ?_
  · refine st ?_
    simp
  refine awp_seq ?_
  refine cut 19 0 [(0, .sl (s1.map Api.Fun.c)), (1, .fn (.func 49) [] []), (7, .int .i64 (s1.length : Int)), (8, .int .i64 0)] [] ?_ ?_
  · refine st ?_
    simp
  refine awp_block ?_
  obtain ⟨o4, l5, h⟩ := bs h
  refine awp_inv (fun p : Nat × Nat => mkS 19 0 [(0, .sl (s1.map Api.Fun.c)), (1, .fn (.func 49) [] []), (7, .int .i64 (s1.length : Int)), (8, .int .i64 ((p.2 : Nat) : Int))] []) (fun p => M.slices_IndexFunc_api_Fun_big_2_l1 s1 p.1 p.2 = some o4) (fun p => p.1) (fuel, 0) l5 (le_mkS (by simp)) ?_
  rintro ⟨k6, i2⟩ l5
  try dsimp only at l5 ⊢
  cases k6 with
  | zero =>
    rw [M.slices_IndexFunc_api_Fun_big_2_l1] at l5; cases l5
  | succ k7 =>
    rw [M.slices_IndexFunc_api_Fun_big_2_l1] at l5
    refine cut 19 0 [(0, .sl (s1.map Api.Fun.c)), (1, .fn (.func 49) [] []), (7, .int .i64 (s1.length : Int)), (8, .int .i64 ((i2 : Nat) : Int)), (9, .bool (ltI ((i2 : Nat) : Int) (s1.length : Int)))] [] ?_ ?_
    · refine st ?_
      simp
    refine awp_seq ?_
    rcases sp l5 with ⟨g8, l5⟩ | ⟨g8, l5⟩
    · have c9 := ltT g8
      refine condT rfl g8 ?_
      refine factL 0 rfl fun f10 => ?_
      rw [List.length_map] at f10
      refine awp_skip ?_
      refine seq_eq ?_
      refine awp_seq ?_
      refine awp_block ?_
      refine cut 19 0 [(0, .sl (s1.map Api.Fun.c)), (1, .fn (.func 49) [] []), (5, .int .i64 ((i2 : Nat) : Int)), (7, .int .i64 (s1.length : Int)), (8, .int .i64 ((i2 : Nat) : Int))] [] ?_ ?_
      · refine st ?_
        simp
      obtain ⟨x11, q12, l5⟩ := bs l5
      obtain ⟨v13, q14, l5⟩ := bs l5
      refine cut 19 0 [(0, .sl (s1.map Api.Fun.c)), (1, .fn (.func 49) [] []), (5, .int .i64 ((i2 : Nat) : Int)), (7, .int .i64 (s1.length : Int)), (8, .int .i64 ((i2 : Nat) : Int)), (16, .bool v13)] [] ?_ ?_
      · refine st ?_
        simp [q12]
        have r17 := law48_big_2_ok x11 v13 q14
        try simp [q12] at r17
        refine callPure r17 (by simp) rfl ?_
        simp [q12]
      rcases sp l5 with ⟨g15, l5⟩ | ⟨g15, l5⟩
      · refine condT rfl g15 ?_
        refine cut 19 0 [(4, .int .i64 ((i2 : Nat) : Int))] [] ?_ ?_
        · refine st ?_
          simp
        refine awp_ret ?_
        refine ret_blk ?_
        refine ret_seq ?_
        replace h := retL l5 h
        refine ret_seq ?_
        refine ret_blk ?_
        refine ret_seq ?_
        obtain rfl := oi h
        simp
      refine condF rfl g15 ?_
      refine awp_skip ?_
      refine blk_n ?_
      refine seq_eq ?_
      have q16 : Rng .i64 (((i2 : Nat) : Int) + 1) := by simp only [Rng, inR]; omega
      try simp at q16
      refine last 19 0 [(0, .sl (s1.map Api.Fun.c)), (1, .fn (.func 49) [] []), (7, .int .i64 (s1.length : Int)), (8, .int .i64 ((i2 + 1 : Nat) : Int))] [] ?_ fun zz hs => ?_
      · refine st ?_
        simp [q16]
      exact ⟨(k7, i2 + 1), hs, l5, by simp⟩
    have c18 := ltF g8
    refine condF rfl g8 ?_
    refine factL 0 rfl fun f19 => ?_
    rw [List.length_map] at f19
    refine awp_exit ?_
    refine exit_seq ?_
    rcases o4 with o4 | o3
    · cases l5
    have q20 := Sum.inr.inj (Option.some.inj l5)
    replace h := elimR h
    refine exit_seq ?_
    refine exit_blk ?_
    refine seq_le (t := mkS 19 0 [] []) ?_ (le_mkS (by simp []))
    refine cut 19 0 [(4, .int .i64 (-1))] [] ?_ ?_
    · refine st ?_
      simp
    refine awp_ret ?_
    obtain rfl := oi h
    simp
end Go.Proofs.Ythbjlmoaceaeeaa
set_option linter.unusedVariables false
set_option linter.unusedSimpArgs false
set_option maxRecDepth 100000
set_option maxHeartbeats 1000000
namespace Go.Proofs.Ythbjlmoaceaeeaa
open Go Go.Abs
theorem slices_ContainsFunc_api_Fun_big_2_ok (fuel : Nat) (s1 : (List Api.Fun)) (r : Bool) (h : M.slices_ContainsFunc_api_Fun_big_2 fuel s1 = some r) : Pure Try.prog 48 [.sl (s1.map Api.Fun.c), .fn (.func 49) [] []] (.bool r) := by
  rw [M.slices_ContainsFunc_api_Fun_big_2] at h
  refine pure_of_body Try.func48 (by rfl) (by rfl) (by simp) (by simp) (by simp) ?_
  refine cut 9 0 [(0, .sl (s1.map Api.Fun.c)), (1, .fn (.func 49) [] [])] [] ?_ ?_
  · refine st ?_
    simp
  obtain ⟨v2, q3, h⟩ := bs h
  refine cut 9 0 [(4, .bool (leI 0 v2))] [] ?_ ?_
  · refine st ?_
    simp
    have r4 := slices_IndexFunc_api_Fun_big_2_ok fuel s1 v2 q3
    try simp [] at r4
    refine callPure r4 (by simp) rfl ?_
    simp
  refine awp_ret ?_
  obtain rfl := oi h
  simp
end Go.Proofs.Ythbjlmoaceaeeaa
set_option linter.unusedVariables false
set_option linter.unusedSimpArgs false
set_option maxRecDepth 100000
set_option maxHeartbeats 1000000
namespace Go.Proofs.Ythbjlmoaceaeeaa
open Go Go.Abs
theorem law48_big_ok (fuel : Nat) (p1 : Api.Program) (r : Bool) (h : M.law48_big fuel p1 = some r) : Pure Try.prog 14 [.agg [.sl (p1.Funs.map Api.Fun.c), .sl (p1.Texts.map cS), .int .i64 p1.Main]] (.bool r) := by
  rw [M.law48_big] at h
  refine pure_of_body Try.func14 (by rfl) (by rfl) (by simp) (by simp) (by simp) ?_
  refine cut 23 0 [(1, .mptr 0 0)] [(Api.Program.c p1)] ?_ ?_
  · refine st ?_
    simp
  obtain ⟨b17, q18, h⟩ := bs h
  refine cut 23 0 [(2, .bool b17)] [(Api.Program.c p1)] ?_ ?_
  · rcases sp q18 with ⟨g2, q18⟩ | ⟨g2, q18⟩
    · have c3 := ltT g2
      refine factCL 0 0 rfl rfl rfl fun f4 => ?_
      rw [List.length_map] at f4
      obtain rfl := oi q18
      refine st ?_
      simp [g2]
    have c5 := ltF g2
    refine factCL 0 0 rfl rfl rfl fun f6 => ?_
    rw [List.length_map] at f6
    rcases sp q18 with ⟨g7, q18⟩ | ⟨g7, q18⟩
    · have c8 := ltT g7
      refine factCL 0 1 rfl rfl rfl fun f9 => ?_
      rw [List.length_map] at f9
      obtain rfl := oi q18
      refine st ?_
      simp [g2, g7]
    have c10 := ltF g7
    refine factCL 0 1 rfl rfl rfl fun f11 => ?_
    rw [List.length_map] at f11
    obtain ⟨v12, q13, q18⟩ := bs q18
    rcases sp q18 with ⟨g14, q18⟩ | ⟨g14, q18⟩
    · obtain rfl := oi q18
      refine st ?_
      simp [g2, g7, g14]
      have r19 := slices_ContainsFunc_string_big_1_ok fuel p1.Texts v12 q13
      try simp [g2, g7, g14] at r19
      refine callPure r19 (by simp) rfl ?_
      simp [g2, g7, g14]
    obtain ⟨v15, q16, q18⟩ := bs q18
    obtain rfl := oi q18
    refine st ?_
    simp [g2, g7, g14]
    have r20 := slices_ContainsFunc_string_big_1_ok fuel p1.Texts v12 q13
    try simp [g2, g7, g14] at r20
    refine callPure r20 (by simp) rfl ?_
    simp [g2, g7, g14]
    have r21 := slices_ContainsFunc_api_Fun_big_2_ok fuel p1.Funs v15 q16
    try simp [g2, g7, g14] at r21
    refine callPure r21 (by simp) rfl ?_
    simp [g2, g7, g14]
  refine awp_ret ?_
  obtain rfl := oi h
  simp
end Go.Proofs.Ythbjlmoaceaeeaa
set_option linter.unusedVariables false
set_option linter.unusedSimpArgs false
set_option maxRecDepth 100000
set_option maxHeartbeats 1000000
namespace Go.Proofs.Ythbjlmoaceaeeaa
open Go Go.Abs
theorem ref46_in_ok (n1 : Int) (low2 : Int) (high3 : Int) (r : Bool) (h : M.ref46_in n1 low2 high3 = some r) : Pure Try.prog 58 [.int .i64 n1, .int .i64 low2, .int .i64 high3] (.bool r) := by
  rw [M.ref46_in] at h
  refine pure_of_body Try.func58 (by rfl) (by rfl) (by simp) (by simp) (by simp) ?_
  refine cut 15 0 [(0, .int .i64 n1), (1, .int .i64 low2), (2, .int .i64 high3)] [] ?_ ?_
  · refine st ?_
    simp
  refine cut 15 0 [(6, .bool ((leI low2 n1) && (leI n1 high3)))] [] ?_ ?_
  · rcases tf (leI low2 n1) with g4 | g4
    · have c5 := leT g4
      refine st ?_
      simp [g4]
    have c6 := leF g4
    refine st ?_
    simp [g4]
  refine awp_ret ?_
  obtain rfl := oi h
  simp
end Go.Proofs.Ythbjlmoaceaeeaa
set_option linter.unusedVariables false
set_option linter.unusedSimpArgs false
set_option maxRecDepth 100000
set_option maxHeartbeats 1000000
namespace Go.Proofs.Ythbjlmoaceaeeaa
open Go Go.Abs
theorem ref02_Plain_ok (fuel : Nat) (s1 : (List UInt8)) (r : Bool) (h : M.ref02_Plain fuel s1 = some r) : Pure Try.prog 95 [.str s1] (.bool r) := by
  rw [M.ref02_Plain] at h
  refine pure_of_body Try.func95 (by rfl) (by rfl) (by simp) (by simp) (by simp) ?_
  refine cut 26 0 [(0, .str s1)] [] ?_ ?_
  · refine st ?_
    simp
  refine awp_seq ?_
  refine cut 26 0 [(0, .str s1), (3, .int .i64 0)] [] ?_ ?_
  · refine st ?_
    simp
  refine awp_block ?_
  obtain ⟨o4, l5, h⟩ := bs h
  refine awp_inv (fun p : Nat × Nat => mkS 26 0 [(0, .str s1), (3, .int .i64 ((p.2 : Nat) : Int))] []) (fun p => M.ref02_Plain_l1 s1 p.1 p.2 = some o4) (fun p => p.1) (fuel, 0) l5 (le_mkS (by simp)) ?_
  rintro ⟨k6, i2⟩ l5
  try dsimp only at l5 ⊢
  cases k6 with
  | zero =>
    rw [M.ref02_Plain_l1] at l5; cases l5
  | succ k7 =>
    rw [M.ref02_Plain_l1] at l5
    refine awp_seq ?_
    refine cut 26 0 [(0, .str s1), (3, .int .i64 ((i2 : Nat) : Int)), (7, .bool (ltI ((i2 : Nat) : Int) (s1.length : Int)))] [] ?_ ?_
    · refine st ?_
      simp
    rcases sp l5 with ⟨g8, l5⟩ | ⟨g8, l5⟩
    · have c9 := ltT g8
      refine condT rfl g8 ?_
      refine factS 0 rfl fun f10 => ?_
      refine awp_skip ?_
      refine seq_eq ?_
      refine awp_seq ?_
      refine awp_block ?_
      obtain ⟨b19, q20, l5⟩ := bs l5
      refine cut 26 0 [(0, .str s1), (3, .int .i64 ((i2 : Nat) : Int)), (25, .bool b19)] [] ?_ ?_
      · obtain ⟨c11, q12, q20⟩ := bs q20
        rcases sp q20 with ⟨g13, q20⟩ | ⟨g13, q20⟩
        · have c14 := ltT g13
          obtain rfl := oi q20
          refine st ?_
          simp [q12, g13]
        have c15 := ltF g13
        rcases sp q20 with ⟨g16, q20⟩ | ⟨g16, q20⟩
        · have c17 := ltT g16
          obtain rfl := oi q20
          refine st ?_
          simp [q12, g13, g16]
        have c18 := ltF g16
        obtain rfl := oi q20
        refine st ?_
        simp [q12, g13, g16]
      rcases sp l5 with ⟨g21, l5⟩ | ⟨g21, l5⟩
      · refine condT rfl g21 ?_
        refine cut 26 0 [(2, .bool false)] [] ?_ ?_
        · refine st ?_
          simp
        refine awp_ret ?_
        refine ret_blk ?_
        refine ret_seq ?_
        replace h := retL l5 h
        refine ret_seq ?_
        refine ret_blk ?_
        refine ret_seq ?_
        obtain rfl := oi h
        simp
      refine condF rfl g21 ?_
      refine awp_skip ?_
      refine blk_n ?_
      refine seq_eq ?_
      have q22 : Rng .i64 (((i2 : Nat) : Int) + 1) := by simp only [Rng, inR]; omega
      try simp at q22
      refine last 26 0 [(0, .str s1), (3, .int .i64 ((i2 + 1 : Nat) : Int))] [] ?_ fun zz hs => ?_
      · refine st ?_
        simp [q22]
      exact ⟨(k7, i2 + 1), hs, l5, by simp⟩
    have c23 := ltF g8
    refine condF rfl g8 ?_
    refine factS 0 rfl fun f24 => ?_
    refine awp_exit ?_
    refine exit_seq ?_
    rcases o4 with o4 | o3
    · cases l5
    have q25 := Sum.inr.inj (Option.some.inj l5)
    replace h := elimR h
    refine exit_seq ?_
    refine exit_blk ?_
    refine seq_le (t := mkS 26 0 [] []) ?_ (le_mkS (by simp []))
    refine cut 26 0 [(2, .bool true)] [] ?_ ?_
    · refine st ?_
      simp
    refine awp_ret ?_
    obtain rfl := oi h
    simp
end Go.Proofs.Ythbjlmoaceaeeaa
set_option linter.unusedVariables false
set_option linter.unusedSimpArgs false
set_option maxRecDepth 100000
set_option maxHeartbeats 1000000
namespace Go.Proofs.Ythbjlmoaceaeeaa
open Go Go.Abs
theorem ref46_textual_ok (fuel : Nat) (s1 : (List UInt8)) (r : Bool) (h : M.ref46_textual fuel s1 = some r) : Pure Try.prog 59 [.str s1] (.bool r) := by
  rw [M.ref46_textual] at h
  refine pure_of_body Try.func59 (by rfl) (by rfl) (by simp) (by simp) (by simp) ?_
  refine cut 10 0 [(0, .str s1)] [] ?_ ?_
  · refine st ?_
    simp
  obtain ⟨b9, q10, h⟩ := bs h
  refine cut 10 0 [(2, .bool b9)] [] ?_ ?_
  · rcases sp q10 with ⟨g2, q10⟩ | ⟨g2, q10⟩
    · have c3 := leT g2
      refine factS 0 rfl fun f4 => ?_
      obtain ⟨v5, q6, q10⟩ := bs q10
      obtain rfl := oi q10
      refine st ?_
      simp [g2]
      have r11 := ref02_Plain_ok fuel s1 v5 q6
      try simp [g2] at r11
      refine callPure r11 (by simp) rfl ?_
      simp [g2]
    have c7 := leF g2
    refine factS 0 rfl fun f8 => ?_
    obtain rfl := oi q10
    refine st ?_
    simp [g2]
  refine awp_ret ?_
  obtain rfl := oi h
  simp
end Go.Proofs.Ythbjlmoaceaeeaa
set_option linter.unusedVariables false
set_option linter.unusedSimpArgs false
set_option maxRecDepth 100000
set_option maxHeartbeats 1000000
namespace Go.Proofs.Ythbjlmoaceaeeaa
open Go Go.Abs
theorem ref46_Word_ok (op1 : Int) (r : (List UInt8)) (h : M.ref46_Word op1 = some r) : Pure Try.prog 96 [.int .i64 op1] (.str r) := by
  rw [M.ref46_Word] at h
  refine pure_of_body Try.func96 (by rfl) (by rfl) (by simp) (by simp) (by simp) ?_
  refine cut 17 0 [(0, .int .i64 op1)] [] ?_ ?_
  · refine st ?_
    simp
  obtain ⟨l2, q3, h⟩ := bs h
  obtain ⟨q4, q5⟩ := lit_ok q3
  refine cut 17 0 [(0, .int .i64 op1), (3, .osl ⟨1, 9⟩ (l2.map cS))] [] ?_ ?_
  · refine st ?_
    simp [q4, q5]
  refine awp_seq ?_
  refine cut 17 0 [(0, .int .i64 op1), (3, .osl ⟨1, 9⟩ (l2.map cS)), (12, .bool ((ltI op1 1) || (leI (l2.length : Int) op1)))] [] ?_ ?_
  · rcases tf (ltI op1 1) with g6 | g6
    · have c7 := ltT g6
      refine st ?_
      simp [g6]
    have c8 := ltF g6
    refine st ?_
    simp [g6]
  rcases sp h with ⟨g9, h⟩ | ⟨g9, h⟩
  · refine condT rfl g9 ?_
    refine cut 17 0 [(2, .str ([] : List UInt8))] [] ?_ ?_
    · refine st ?_
      simp
    refine awp_ret ?_
    refine ret_seq ?_
    obtain rfl := oi h
    simp
  obtain ⟨g10, g11⟩ := orF g9
  have c12 := ltF g10
  have c13 := leF g11
  refine condF rfl g9 ?_
  refine factL 3 rfl fun f14 => ?_
  rw [List.length_map] at f14
  refine awp_skip ?_
  refine seq_eq ?_
  obtain ⟨x15, q16, h⟩ := bs h
  obtain ⟨q17, q18⟩ := idx_ok q16
  have q19 := litIdx (cS) q18
  rw [q4] at q19
  try simp at q19
  refine cut 17 0 [(2, .str x15)] [] ?_ ?_
  · refine st ?_
    simp [q17, q18, q19]
  refine awp_ret ?_
  obtain rfl := oi h
  simp
end Go.Proofs.Ythbjlmoaceaeeaa
set_option linter.unusedVariables false
set_option linter.unusedSimpArgs false
set_option maxRecDepth 100000
set_option maxHeartbeats 1000000
namespace Go.Proofs.Ythbjlmoaceaeeaa
open Go Go.Abs
theorem ref46_Operands_ok (op1 : Int) (r : Int) (h : M.ref46_Operands op1 = some r) : Pure Try.prog 97 [.int .i64 op1] (.int .i64 r) := by
  rw [M.ref46_Operands] at h
  refine pure_of_body Try.func97 (by rfl) (by rfl) (by simp) (by simp) (by simp) ?_
  refine cut 11 0 [(0, .int .i64 op1)] [] ?_ ?_
  · refine st ?_
    simp
  refine awp_seq ?_
  refine cut 11 0 [(3, .int .i64 op1)] [] ?_ ?_
  · refine st ?_
    simp
  refine awp_block ?_
  refine awp_seq ?_
  refine cut 11 0 [(3, .int .i64 op1), (4, .bool (eqI op1 6))] [] ?_ ?_
  · refine st ?_
    simp
  rcases sp h with ⟨g2, h⟩ | ⟨g2, h⟩
  · have c3 := eqT g2
    refine condT rfl g2 ?_
    refine awp_skip ?_
    refine seq_eq ?_
    refine condT rfl (by simp [g2]) ?_
    refine cut 11 0 [(2, .int .i64 0)] [] ?_ ?_
    · refine st ?_
      simp
    refine awp_ret ?_
    refine ret_blk ?_
    refine ret_seq ?_
    obtain rfl := oi h
    simp
  have c4 := eqF g2
  refine condF rfl g2 ?_
  refine cut 11 0 [(3, .int .i64 op1), (4, .bool (eqI op1 8))] [] ?_ ?_
  · refine st ?_
    simp
  rcases sp h with ⟨g5, h⟩ | ⟨g5, h⟩
  · have c6 := eqT g5
    refine condT rfl g5 ?_
    refine awp_skip ?_
    refine seq_eq ?_
    refine condT rfl (by simp [g5]) ?_
    refine cut 11 0 [(2, .int .i64 0)] [] ?_ ?_
    · refine st ?_
      simp
    refine awp_ret ?_
    refine ret_blk ?_
    refine ret_seq ?_
    obtain rfl := oi h
    simp
  have c7 := eqF g5
  refine condF rfl g5 ?_
  refine last 11 0 [(3, .int .i64 op1), (4, .bool (eqI op1 9))] [] ?_ fun zz hs => ?_
  · refine st ?_
    simp
  refine seq_le ?_ hs
  rcases sp h with ⟨g8, h⟩ | ⟨g8, h⟩
  · have c9 := eqT g8
    refine condT rfl g8 ?_
    refine cut 11 0 [(2, .int .i64 0)] [] ?_ ?_
    · refine st ?_
      simp
    refine awp_ret ?_
    refine ret_blk ?_
    refine ret_seq ?_
    obtain rfl := oi h
    simp
  have c10 := eqF g8
  refine condF rfl g8 ?_
  refine awp_seq ?_
  refine cut 11 0 [(3, .int .i64 op1), (8, .bool (eqI op1 7))] [] ?_ ?_
  · refine st ?_
    simp
  rcases sp h with ⟨g11, h⟩ | ⟨g11, h⟩
  · have c12 := eqT g11
    refine condT rfl g11 ?_
    refine awp_skip ?_
    refine seq_eq ?_
    refine condT rfl (by simp [g11]) ?_
    refine cut 11 0 [(2, .int .i64 2)] [] ?_ ?_
    · refine st ?_
      simp
    refine awp_ret ?_
    refine ret_blk ?_
    refine ret_seq ?_
    obtain rfl := oi h
    simp
  have c13 := eqF g11
  refine condF rfl g11 ?_
  refine last 11 0 [(8, .bool (eqI op1 13))] [] ?_ fun zz hs => ?_
  · refine st ?_
    simp
  refine seq_le ?_ hs
  rcases sp h with ⟨g14, h⟩ | ⟨g14, h⟩
  · have c15 := eqT g14
    refine condT rfl g14 ?_
    refine cut 11 0 [(2, .int .i64 2)] [] ?_ ?_
    · refine st ?_
      simp
    refine awp_ret ?_
    refine ret_blk ?_
    refine ret_seq ?_
    obtain rfl := oi h
    simp
  have c16 := eqF g14
  refine condF rfl g14 ?_
  refine awp_skip ?_
  refine blk_n ?_
  refine seq_eq ?_
  refine cut 11 0 [(2, .int .i64 1)] [] ?_ ?_
  · refine st ?_
    simp
  refine awp_ret ?_
  obtain rfl := oi h
  simp
end Go.Proofs.Ythbjlmoaceaeeaa
set_option linter.unusedVariables false
set_option linter.unusedSimpArgs false
set_option maxRecDepth 100000
set_option maxHeartbeats 1000000
namespace Go.Proofs.Ythbjlmoaceaeeaa
open Go Go.Abs
theorem ref46_Arity_ok (n1 : Int) (r : Int) (h : M.ref46_Arity n1 = some r) : Pure Try.prog 98 [.int .i64 n1] (.int .i64 r) := by
  rw [M.ref46_Arity] at h
  refine pure_of_body Try.func98 (by rfl) (by rfl) (by simp) (by simp) (by simp) ?_
  refine cut 15 0 [(0, .int .i64 n1)] [] ?_ ?_
  · refine st ?_
    simp
  refine awp_seq ?_
  refine cut 15 0 [(0, .int .i64 n1), (3, .int .i64 n1)] [] ?_ ?_
  · refine st ?_
    simp
  refine awp_block ?_
  refine awp_seq ?_
  refine cut 15 0 [(0, .int .i64 n1), (3, .int .i64 n1), (4, .bool (eqI n1 6))] [] ?_ ?_
  · refine st ?_
    simp
  rcases sp h with ⟨g2, h⟩ | ⟨g2, h⟩
  · have c3 := eqT g2
    refine condT rfl g2 ?_
    refine awp_skip ?_
    refine seq_eq ?_
    refine condT rfl (by simp [g2]) ?_
    refine cut 15 0 [(2, .int .i64 1)] [] ?_ ?_
    · refine st ?_
      simp
    refine awp_ret ?_
    refine ret_blk ?_
    refine ret_seq ?_
    obtain rfl := oi h
    simp
  have c4 := eqF g2
  refine condF rfl g2 ?_
  refine cut 15 0 [(0, .int .i64 n1), (3, .int .i64 n1), (4, .bool (eqI n1 11))] [] ?_ ?_
  · refine st ?_
    simp
  rcases sp h with ⟨g5, h⟩ | ⟨g5, h⟩
  · have c6 := eqT g5
    refine condT rfl g5 ?_
    refine awp_skip ?_
    refine seq_eq ?_
    refine condT rfl (by simp [g5]) ?_
    refine cut 15 0 [(2, .int .i64 1)] [] ?_ ?_
    · refine st ?_
      simp
    refine awp_ret ?_
    refine ret_blk ?_
    refine ret_seq ?_
    obtain rfl := oi h
    simp
  have c7 := eqF g5
  refine condF rfl g5 ?_
  refine cut 15 0 [(0, .int .i64 n1), (3, .int .i64 n1), (4, .bool (eqI n1 13))] [] ?_ ?_
  · refine st ?_
    simp
  rcases sp h with ⟨g8, h⟩ | ⟨g8, h⟩
  · have c9 := eqT g8
    refine condT rfl g8 ?_
    refine awp_skip ?_
    refine seq_eq ?_
    refine condT rfl (by simp [g8]) ?_
    refine cut 15 0 [(2, .int .i64 1)] [] ?_ ?_
    · refine st ?_
      simp
    refine awp_ret ?_
    refine ret_blk ?_
    refine ret_seq ?_
    obtain rfl := oi h
    simp
  have c10 := eqF g8
  refine condF rfl g8 ?_
  refine last 15 0 [(0, .int .i64 n1), (4, .bool (eqI n1 14))] [] ?_ fun zz hs => ?_
  · refine st ?_
    simp
  refine seq_le ?_ hs
  rcases sp h with ⟨g11, h⟩ | ⟨g11, h⟩
  · have c12 := eqT g11
    refine condT rfl g11 ?_
    refine cut 15 0 [(2, .int .i64 1)] [] ?_ ?_
    · refine st ?_
      simp
    refine awp_ret ?_
    refine ret_blk ?_
    refine ret_seq ?_
    obtain rfl := oi h
    simp
  have c13 := eqF g11
  refine condF rfl g11 ?_
  refine awp_skip ?_
  refine blk_n ?_
  refine seq_eq ?_
  refine awp_seq ?_
  refine cut 15 0 [(14, .bool ((ltI n1 1) || (ltI 14 n1)))] [] ?_ ?_
  · rcases tf (ltI n1 1) with g14 | g14
    · have c15 := ltT g14
      refine st ?_
      simp [g14]
    have c16 := ltF g14
    refine st ?_
    simp [g14]
  rcases sp h with ⟨g17, h⟩ | ⟨g17, h⟩
  · refine condT rfl g17 ?_
    refine cut 15 0 [(2, .int .i64 0)] [] ?_ ?_
    · refine st ?_
      simp
    refine awp_ret ?_
    refine ret_seq ?_
    obtain rfl := oi h
    simp
  obtain ⟨g18, g19⟩ := orF g17
  have c20 := ltF g18
  have c21 := ltF g19
  refine condF rfl g17 ?_
  refine awp_skip ?_
  refine seq_eq ?_
  refine cut 15 0 [(2, .int .i64 2)] [] ?_ ?_
  · refine st ?_
    simp
  refine awp_ret ?_
  obtain rfl := oi h
  simp
end Go.Proofs.Ythbjlmoaceaeeaa
set_option linter.unusedVariables false
set_option linter.unusedSimpArgs false
set_option maxRecDepth 100000
set_option maxHeartbeats 1000000
namespace Go.Proofs.Ythbjlmoaceaeeaa
open Go Go.Abs
theorem ref46_right_ok (fuel : Nat) (p1 : Api.Program) (f2 : Api.Fun) (at3 : Int) (r : Bool) (h : M.ref46_right fuel p1 f2 at3 = some r) : Pure Try.prog 60 [.agg [.sl (p1.Funs.map Api.Fun.c), .sl (p1.Texts.map cS), .int .i64 p1.Main], .agg [.int .i64 f2.Captures, .int .i64 f2.Locals, .int .i64 f2.Depth, .sl (f2.Code.map Api.Instr.c)], .int .i64 at3] (.bool r) := by
  rw [M.ref46_right] at h
  refine pure_of_body Try.func60 (by rfl) (by rfl) (by simp) (by simp) (by simp) ?_
  refine cut 165 0 [(2, .int .i64 at3), (3, .mptr 0 0), (4, .mptr 1 0)] [(Api.Program.c p1), (Api.Fun.c f2)] ?_ ?_
  · refine st ?_
    simp
  obtain ⟨x4, q5, h⟩ := bs h
  obtain ⟨q6, q7⟩ := idx_ok q5
  refine cut 165 0 [(2, .int .i64 at3), (3, .mptr 0 0), (4, .mptr 1 0), (7, .mptr 2 0)] [(Api.Program.c p1), (Api.Fun.c f2), (Api.Instr.c x4)] ?_ ?_
  · refine st ?_
    simp [q6, q7]
  refine awp_seq ?_
  obtain ⟨b31, q32, h⟩ := bs h
  refine cut 165 0 [(2, .int .i64 at3), (3, .mptr 0 0), (4, .mptr 1 0), (7, .mptr 2 0), (39, .bool b31)] [(Api.Program.c p1), (Api.Fun.c f2), (Api.Instr.c x4)] ?_ ?_
  · obtain ⟨v8, q9, q32⟩ := bs q32
    rcases sp q32 with ⟨g10, q32⟩ | ⟨g10, q32⟩
    · obtain rfl := oi q32
      refine st ?_
      simp [g10]
      have r205 := ref46_Word_ok x4.Op v8 q9
      try simp [g10] at r205
      refine callPure r205 (by simp) rfl ?_
      simp [g10]
    obtain ⟨v11, q12, q32⟩ := bs q32
    rcases sp q32 with ⟨g13, q32⟩ | ⟨g13, q32⟩
    · have c14 := ltT g13
      rcases sp q32 with ⟨g15, q32⟩ | ⟨g15, q32⟩
      · have g16 := notT g15
        have c17 := eqF g16
        obtain rfl := oi q32
        refine st ?_
        simp [g10, g13, g15]
        have r206 := ref46_Word_ok x4.Op v8 q9
        try simp [g10, g13, g15] at r206
        refine callPure r206 (by simp) rfl ?_
        simp [g10, g13, g15]
        have r207 := ref46_Operands_ok x4.Op v11 q12
        try simp [g10, g13, g15] at r207
        refine callPure r207 (by simp) rfl ?_
        simp [g10, g13, g15]
      have g18 := notF g15
      have c19 := eqT g18
      obtain ⟨v20, q21, q32⟩ := bs q32
      rcases sp q32 with ⟨g22, q32⟩ | ⟨g22, q32⟩
      · have c23 := ltT g22
        obtain rfl := oi q32
        refine st ?_
        simp [g10, g13, g15, g22]
        have r208 := ref46_Word_ok x4.Op v8 q9
        try simp [g10, g13, g15, g22] at r208
        refine callPure r208 (by simp) rfl ?_
        simp [g10, g13, g15, g22]
        have r209 := ref46_Operands_ok x4.Op v11 q12
        try simp [g10, g13, g15, g22] at r209
        refine callPure r209 (by simp) rfl ?_
        simp [g10, g13, g15, g22]
        have r210 := ref46_Operands_ok x4.Op v20 q21
        try simp [g10, g13, g15, g22] at r210
        refine callPure r210 (by simp) rfl ?_
        simp [g10, g13, g15, g22]
      have c24 := ltF g22
      obtain rfl := oi q32
      refine st ?_
      simp [g10, g13, g15, g22]
      have r211 := ref46_Word_ok x4.Op v8 q9
      try simp [g10, g13, g15, g22] at r211
      refine callPure r211 (by simp) rfl ?_
      simp [g10, g13, g15, g22]
      have r212 := ref46_Operands_ok x4.Op v11 q12
      try simp [g10, g13, g15, g22] at r212
      refine callPure r212 (by simp) rfl ?_
      simp [g10, g13, g15, g22]
      have r213 := ref46_Operands_ok x4.Op v20 q21
      try simp [g10, g13, g15, g22] at r213
      refine callPure r213 (by simp) rfl ?_
      simp [g10, g13, g15, g22]
    have c25 := ltF g13
    obtain ⟨v26, q27, q32⟩ := bs q32
    rcases sp q32 with ⟨g28, q32⟩ | ⟨g28, q32⟩
    · have c29 := ltT g28
      obtain rfl := oi q32
      refine st ?_
      simp [g10, g13, g28]
      have r214 := ref46_Word_ok x4.Op v8 q9
      try simp [g10, g13, g28] at r214
      refine callPure r214 (by simp) rfl ?_
      simp [g10, g13, g28]
      have r215 := ref46_Operands_ok x4.Op v11 q12
      try simp [g10, g13, g28] at r215
      refine callPure r215 (by simp) rfl ?_
      simp [g10, g13, g28]
      have r216 := ref46_Operands_ok x4.Op v26 q27
      try simp [g10, g13, g28] at r216
      refine callPure r216 (by simp) rfl ?_
      simp [g10, g13, g28]
    have c30 := ltF g28
    obtain rfl := oi q32
    refine st ?_
    simp [g10, g13, g28]
    have r217 := ref46_Word_ok x4.Op v8 q9
    try simp [g10, g13, g28] at r217
    refine callPure r217 (by simp) rfl ?_
    simp [g10, g13, g28]
    have r218 := ref46_Operands_ok x4.Op v11 q12
    try simp [g10, g13, g28] at r218
    refine callPure r218 (by simp) rfl ?_
    simp [g10, g13, g28]
    have r219 := ref46_Operands_ok x4.Op v26 q27
    try simp [g10, g13, g28] at r219
    refine callPure r219 (by simp) rfl ?_
    simp [g10, g13, g28]
  rcases sp h with ⟨g33, h⟩ | ⟨g33, h⟩
  · refine condT rfl g33 ?_
    refine cut 165 0 [(6, .bool false)] [(Api.Program.c p1), (Api.Fun.c f2), (Api.Instr.c x4)] ?_ ?_
    · refine st ?_
      simp
    refine awp_ret ?_
    refine ret_seq ?_
    obtain rfl := oi h
    simp
  refine condF rfl g33 ?_
  refine awp_skip ?_
  refine seq_eq ?_
  refine awp_seq ?_
  refine cut 165 0 [(2, .int .i64 at3), (3, .mptr 0 0), (4, .mptr 1 0), (7, .mptr 2 0), (41, .int .i64 x4.Op)] [(Api.Program.c p1), (Api.Fun.c f2), (Api.Instr.c x4)] ?_ ?_
  · refine st ?_
    simp
  refine awp_block ?_
  refine cut 165 0 [(2, .int .i64 at3), (3, .mptr 0 0), (4, .mptr 1 0), (7, .mptr 2 0), (41, .int .i64 x4.Op), (42, .bool (eqI x4.Op 1))] [(Api.Program.c p1), (Api.Fun.c f2), (Api.Instr.c x4)] ?_ ?_
  · refine st ?_
    simp
  rcases sp h with ⟨g34, h⟩ | ⟨g34, h⟩
  · have c35 := eqT g34
    refine condT rfl g34 ?_
    obtain ⟨v36, q37, h⟩ := bs h
    refine cut 165 0 [(6, .bool v36)] [(Api.Program.c p1), (Api.Fun.c f2), (Api.Instr.c x4)] ?_ ?_
    · refine st ?_
      simp
      have r38 := ref46_in_ok x4.A (-4503599627370496) 4503599627370496 v36 q37
      try simp [] at r38
      refine callPure r38 (by simp) rfl ?_
      simp
    refine awp_ret ?_
    refine ret_blk ?_
    refine ret_seq ?_
    obtain rfl := oi h
    simp
  have c39 := eqF g34
  refine condF rfl g34 ?_
  refine cut 165 0 [(2, .int .i64 at3), (3, .mptr 0 0), (4, .mptr 1 0), (7, .mptr 2 0), (41, .int .i64 x4.Op), (47, .bool (eqI x4.Op 2))] [(Api.Program.c p1), (Api.Fun.c f2), (Api.Instr.c x4)] ?_ ?_
  · refine st ?_
    simp
  rcases sp h with ⟨g40, h⟩ | ⟨g40, h⟩
  · have c41 := eqT g40
    refine condT rfl g40 ?_
    obtain ⟨n42, q43, h⟩ := bs h
    obtain ⟨q44, q45⟩ := chk_ok q43
    try simp at q44
    try simp at q45
    have c46 := q44; simp only [Rng, inR] at c46
    obtain ⟨v47, q48, h⟩ := bs h
    refine cut 165 0 [(6, .bool v47)] [(Api.Program.c p1), (Api.Fun.c f2), (Api.Instr.c x4)] ?_ ?_
    · refine st ?_
      simp [q44, q45]
      have r49 := ref46_in_ok x4.A 0 n42 v47 q48
      try simp [q44, q45] at r49
      refine callPure r49 (by simp) rfl ?_
      simp [q44, q45]
    refine awp_ret ?_
    refine ret_blk ?_
    refine ret_seq ?_
    obtain rfl := oi h
    simp
  have c50 := eqF g40
  refine condF rfl g40 ?_
  refine awp_seq ?_
  refine cut 165 0 [(2, .int .i64 at3), (3, .mptr 0 0), (4, .mptr 1 0), (7, .mptr 2 0), (41, .int .i64 x4.Op), (56, .bool (eqI x4.Op 3))] [(Api.Program.c p1), (Api.Fun.c f2), (Api.Instr.c x4)] ?_ ?_
  · refine st ?_
    simp
  rcases sp h with ⟨g51, h⟩ | ⟨g51, h⟩
  · have c52 := eqT g51
    refine condT rfl g51 ?_
    refine awp_skip ?_
    refine seq_eq ?_
    refine condT rfl (by simp [g51]) ?_
    obtain ⟨n53, q54, h⟩ := bs h
    obtain ⟨q55, q56⟩ := chk_ok q54
    try simp at q55
    try simp at q56
    have c57 := q55; simp only [Rng, inR] at c57
    obtain ⟨v58, q59, h⟩ := bs h
    refine cut 165 0 [(6, .bool v58)] [(Api.Program.c p1), (Api.Fun.c f2), (Api.Instr.c x4)] ?_ ?_
    · refine st ?_
      simp [q55, q56]
      have r60 := ref46_in_ok x4.A 0 n53 v58 q59
      try simp [q55, q56] at r60
      refine callPure r60 (by simp) rfl ?_
      simp [q55, q56]
    refine awp_ret ?_
    refine ret_blk ?_
    refine ret_seq ?_
    obtain rfl := oi h
    simp
  have c61 := eqF g51
  refine condF rfl g51 ?_
  refine last 165 0 [(2, .int .i64 at3), (3, .mptr 0 0), (4, .mptr 1 0), (7, .mptr 2 0), (41, .int .i64 x4.Op), (56, .bool (eqI x4.Op 4))] [(Api.Program.c p1), (Api.Fun.c f2), (Api.Instr.c x4)] ?_ fun zz hs => ?_
  · refine st ?_
    simp
  refine seq_le ?_ hs
  rcases sp h with ⟨g62, h⟩ | ⟨g62, h⟩
  · have c63 := eqT g62
    refine condT rfl g62 ?_
    obtain ⟨n64, q65, h⟩ := bs h
    obtain ⟨q66, q67⟩ := chk_ok q65
    try simp at q66
    try simp at q67
    have c68 := q66; simp only [Rng, inR] at c68
    obtain ⟨v69, q70, h⟩ := bs h
    refine cut 165 0 [(6, .bool v69)] [(Api.Program.c p1), (Api.Fun.c f2), (Api.Instr.c x4)] ?_ ?_
    · refine st ?_
      simp [q66, q67]
      have r71 := ref46_in_ok x4.A 0 n64 v69 q70
      try simp [q66, q67] at r71
      refine callPure r71 (by simp) rfl ?_
      simp [q66, q67]
    refine awp_ret ?_
    refine ret_blk ?_
    refine ret_seq ?_
    obtain rfl := oi h
    simp
  have c72 := eqF g62
  refine condF rfl g62 ?_
  refine cut 165 0 [(2, .int .i64 at3), (3, .mptr 0 0), (4, .mptr 1 0), (7, .mptr 2 0), (41, .int .i64 x4.Op), (65, .bool (eqI x4.Op 5))] [(Api.Program.c p1), (Api.Fun.c f2), (Api.Instr.c x4)] ?_ ?_
  · refine st ?_
    simp
  rcases sp h with ⟨g73, h⟩ | ⟨g73, h⟩
  · have c74 := eqT g73
    refine condT rfl g73 ?_
    obtain ⟨n75, q76, h⟩ := bs h
    obtain ⟨q77, q78⟩ := chk_ok q76
    try simp at q77
    try simp at q78
    have c79 := q77; simp only [Rng, inR] at c79
    obtain ⟨v80, q81, h⟩ := bs h
    refine cut 165 0 [(6, .bool v80)] [(Api.Program.c p1), (Api.Fun.c f2), (Api.Instr.c x4)] ?_ ?_
    · refine st ?_
      simp [q77, q78]
      have r82 := ref46_in_ok x4.A 0 n75 v80 q81
      try simp [q77, q78] at r82
      refine callPure r82 (by simp) rfl ?_
      simp [q77, q78]
    refine awp_ret ?_
    refine ret_blk ?_
    refine ret_seq ?_
    obtain rfl := oi h
    simp
  have c83 := eqF g73
  refine condF rfl g73 ?_
  refine cut 165 0 [(2, .int .i64 at3), (3, .mptr 0 0), (4, .mptr 1 0), (7, .mptr 2 0), (41, .int .i64 x4.Op), (73, .bool (eqI x4.Op 7))] [(Api.Program.c p1), (Api.Fun.c f2), (Api.Instr.c x4)] ?_ ?_
  · refine st ?_
    simp
  rcases sp h with ⟨g84, h⟩ | ⟨g84, h⟩
  · have c85 := eqT g84
    refine condT rfl g84 ?_
    obtain ⟨b98, q99, h⟩ := bs h
    refine cut 165 0 [(6, .bool b98)] [(Api.Program.c p1), (Api.Fun.c f2), (Api.Instr.c x4)] ?_ ?_
    · obtain ⟨n86, q87, q99⟩ := bs q99
      obtain ⟨q88, q89⟩ := chk_ok q87
      try simp at q88
      try simp at q89
      have c90 := q88; simp only [Rng, inR] at c90
      obtain ⟨v91, q92, q99⟩ := bs q99
      rcases sp q99 with ⟨g93, q99⟩ | ⟨g93, q99⟩
      · obtain ⟨x94, q95, q99⟩ := bs q99
        obtain ⟨q96, q97⟩ := idx_ok q95
        obtain rfl := oi q99
        refine awp_region_draw [] mixed (n := 165) rfl (by decide) ?_
        simp [q88, q89, g93, q96, q97]
        have r100 := ref46_in_ok x4.A 0 n86 v91 q92
        try simp [q88, q89, g93, q96, q97] at r100
        refine callD r100 (by simp) rfl ?_
        simp [q88, q89, g93, q96, q97]
      obtain rfl := oi q99
      refine awp_region_draw [] mixed (n := 165) rfl (by decide) ?_
      simp [q88, q89, g93]
      have r101 := ref46_in_ok x4.A 0 n86 v91 q92
      try simp [q88, q89, g93] at r101
      refine callD r101 (by simp) rfl ?_
      simp [q88, q89, g93]
    refine awp_ret ?_
    refine ret_blk ?_
    refine ret_seq ?_
    obtain rfl := oi h
    simp
  have c102 := eqF g84
  refine condF rfl g84 ?_
  refine cut 165 0 [(2, .int .i64 at3), (4, .mptr 1 0), (7, .mptr 2 0), (41, .int .i64 x4.Op), (94, .bool (eqI x4.Op 10))] [(Api.Program.c p1), (Api.Fun.c f2), (Api.Instr.c x4)] ?_ ?_
  · refine st ?_
    simp
  rcases sp h with ⟨g103, h⟩ | ⟨g103, h⟩
  · have c104 := eqT g103
    refine condT rfl g103 ?_
    obtain ⟨v105, q106, h⟩ := bs h
    refine cut 165 0 [(6, .bool v105)] [(Api.Program.c p1), (Api.Fun.c f2), (Api.Instr.c x4)] ?_ ?_
    · refine st ?_
      simp
      have r107 := ref46_in_ok x4.A 0 1000 v105 q106
      try simp [] at r107
      refine callPure r107 (by simp) rfl ?_
      simp
    refine awp_ret ?_
    refine ret_blk ?_
    refine ret_seq ?_
    obtain rfl := oi h
    simp
  have c108 := eqF g103
  refine condF rfl g103 ?_
  refine awp_seq ?_
  refine cut 165 0 [(2, .int .i64 at3), (4, .mptr 1 0), (7, .mptr 2 0), (41, .int .i64 x4.Op), (99, .bool (eqI x4.Op 11))] [(Api.Program.c p1), (Api.Fun.c f2), (Api.Instr.c x4)] ?_ ?_
  · refine st ?_
    simp
  rcases sp h with ⟨g109, h⟩ | ⟨g109, h⟩
  · have c110 := eqT g109
    refine condT rfl g109 ?_
    refine awp_skip ?_
    refine seq_eq ?_
    refine condT rfl (by simp [g109]) ?_
    obtain ⟨v111, q112, h⟩ := bs h
    refine cut 165 0 [(6, .bool v111)] [(Api.Program.c p1), (Api.Fun.c f2), (Api.Instr.c x4)] ?_ ?_
    · refine st ?_
      simp
      have r113 := ref46_in_ok x4.A 0 999 v111 q112
      try simp [] at r113
      refine callPure r113 (by simp) rfl ?_
      simp
    refine awp_ret ?_
    refine ret_blk ?_
    refine ret_seq ?_
    obtain rfl := oi h
    simp
  have c114 := eqF g109
  refine condF rfl g109 ?_
  refine last 165 0 [(2, .int .i64 at3), (4, .mptr 1 0), (7, .mptr 2 0), (41, .int .i64 x4.Op), (99, .bool (eqI x4.Op 12))] [(Api.Program.c p1), (Api.Fun.c f2), (Api.Instr.c x4)] ?_ fun zz hs => ?_
  · refine st ?_
    simp
  refine seq_le ?_ hs
  rcases sp h with ⟨g115, h⟩ | ⟨g115, h⟩
  · have c116 := eqT g115
    refine condT rfl g115 ?_
    obtain ⟨v117, q118, h⟩ := bs h
    refine cut 165 0 [(6, .bool v117)] [(Api.Program.c p1), (Api.Fun.c f2), (Api.Instr.c x4)] ?_ ?_
    · refine st ?_
      simp
      have r119 := ref46_in_ok x4.A 0 999 v117 q118
      try simp [] at r119
      refine callPure r119 (by simp) rfl ?_
      simp
    refine awp_ret ?_
    refine ret_blk ?_
    refine ret_seq ?_
    obtain rfl := oi h
    simp
  have c120 := eqF g115
  refine condF rfl g115 ?_
  refine cut 165 0 [(2, .int .i64 at3), (4, .mptr 1 0), (7, .mptr 2 0), (41, .int .i64 x4.Op), (105, .bool (eqI x4.Op 14))] [(Api.Program.c p1), (Api.Fun.c f2), (Api.Instr.c x4)] ?_ ?_
  · refine st ?_
    simp
  rcases sp h with ⟨g121, h⟩ | ⟨g121, h⟩
  · have c122 := eqT g121
    refine condT rfl g121 ?_
    obtain ⟨n123, q124, h⟩ := bs h
    obtain ⟨q125, q126⟩ := chk_ok q124
    try simp at q125
    try simp at q126
    have c127 := q125; simp only [Rng, inR] at c127
    obtain ⟨v128, q129, h⟩ := bs h
    refine cut 165 0 [(6, .bool v128)] [(Api.Program.c p1), (Api.Fun.c f2), (Api.Instr.c x4)] ?_ ?_
    · refine st ?_
      simp [q125, q126]
      have r130 := ref46_in_ok x4.A 0 n123 v128 q129
      try simp [q125, q126] at r130
      refine callPure r130 (by simp) rfl ?_
      simp [q125, q126]
    refine awp_ret ?_
    refine ret_blk ?_
    refine ret_seq ?_
    obtain rfl := oi h
    simp
  have c131 := eqF g121
  refine condF rfl g121 ?_
  refine cut 165 0 [(2, .int .i64 at3), (4, .mptr 1 0), (7, .mptr 2 0), (41, .int .i64 x4.Op), (114, .bool (eqI x4.Op 15))] [(Api.Program.c p1), (Api.Fun.c f2), (Api.Instr.c x4)] ?_ ?_
  · refine st ?_
    simp
  rcases sp h with ⟨g132, h⟩ | ⟨g132, h⟩
  · have c133 := eqT g132
    refine condT rfl g132 ?_
    obtain ⟨v134, q135, h⟩ := bs h
    refine cut 165 0 [(6, .bool (ltI 0 v134))] [(Api.Program.c p1), (Api.Fun.c f2), (Api.Instr.c x4)] ?_ ?_
    · refine st ?_
      simp
      have r136 := ref46_Arity_ok x4.A v134 q135
      try simp [] at r136
      refine callPure r136 (by simp) rfl ?_
      simp
    refine awp_ret ?_
    refine ret_blk ?_
    refine ret_seq ?_
    obtain rfl := oi h
    simp
  have c137 := eqF g132
  refine condF rfl g132 ?_
  refine cut 165 0 [(2, .int .i64 at3), (4, .mptr 1 0), (7, .mptr 2 0), (41, .int .i64 x4.Op), (120, .bool (eqI x4.Op 16))] [(Api.Program.c p1), (Api.Fun.c f2), (Api.Instr.c x4)] ?_ ?_
  · refine st ?_
    simp
  rcases sp h with ⟨g138, h⟩ | ⟨g138, h⟩
  · have c139 := eqT g138
    refine condT rfl g138 ?_
    obtain ⟨v140, q141, h⟩ := bs h
    refine cut 165 0 [(6, .bool v140)] [(Api.Program.c p1), (Api.Fun.c f2), (Api.Instr.c x4)] ?_ ?_
    · refine st ?_
      simp
      have r142 := ref46_in_ok x4.A 1 1000000 v140 q141
      try simp [] at r142
      refine callPure r142 (by simp) rfl ?_
      simp
    refine awp_ret ?_
    refine ret_blk ?_
    refine ret_seq ?_
    obtain rfl := oi h
    simp
  have c143 := eqF g138
  refine condF rfl g138 ?_
  refine cut 165 0 [(2, .int .i64 at3), (4, .mptr 1 0), (7, .mptr 2 0), (125, .bool (eqI x4.Op 13))] [(Api.Program.c p1), (Api.Fun.c f2), (Api.Instr.c x4)] ?_ ?_
  · refine st ?_
    simp
  rcases sp h with ⟨g144, h⟩ | ⟨g144, h⟩
  · have c145 := eqT g144
    refine condT rfl g144 ?_
    refine awp_seq ?_
    obtain ⟨b166, q167, h⟩ := bs h
    refine cut 165 0 [(2, .int .i64 at3), (4, .mptr 1 0), (7, .mptr 2 0), (149, .bool b166)] [(Api.Program.c p1), (Api.Fun.c f2), (Api.Instr.c x4)] ?_ ?_
    · obtain ⟨n146, q147, q167⟩ := bs q167
      obtain ⟨q148, q149⟩ := chk_ok q147
      try simp at q148
      try simp at q149
      have c150 := q148; simp only [Rng, inR] at c150
      obtain ⟨v151, q152, q167⟩ := bs q167
      rcases sp q167 with ⟨g153, q167⟩ | ⟨g153, q167⟩
      · have g154 := notT g153
        obtain rfl := oi q167
        refine st ?_
        simp [q148, q149, g153]
        have r199 := ref46_in_ok x4.A 0 n146 v151 q152
        try simp [q148, q149, g153] at r199
        refine callPure r199 (by simp) rfl ?_
        simp [q148, q149, g153]
      have g155 := notF g153
      obtain ⟨v156, q157, q167⟩ := bs q167
      rcases sp q167 with ⟨g158, q167⟩ | ⟨g158, q167⟩
      · have g159 := notT g158
        obtain rfl := oi q167
        refine st ?_
        simp [q148, q149, g153, g158]
        have r200 := ref46_in_ok x4.A 0 n146 v151 q152
        try simp [q148, q149, g153, g158] at r200
        refine callPure r200 (by simp) rfl ?_
        simp [q148, q149, g153, g158]
        have r201 := ref46_in_ok x4.B 1 1000 v156 q157
        try simp [q148, q149, g153, g158] at r201
        refine callPure r201 (by simp) rfl ?_
        simp [q148, q149, g153, g158]
      have g160 := notF g158
      obtain ⟨n161, q162, q167⟩ := bs q167
      obtain ⟨q163, q164⟩ := chk_ok q162
      try simp at q163
      try simp at q164
      have c165 := q163; simp only [Rng, inR] at c165
      obtain rfl := oi q167
      refine st ?_
      simp [q148, q149, g153, g158, q163, q164]
      have r202 := ref46_in_ok x4.A 0 n146 v151 q152
      try simp [q148, q149, g153, g158, q163, q164] at r202
      refine callPure r202 (by simp) rfl ?_
      simp [q148, q149, g153, g158, q163, q164]
      have r203 := ref46_in_ok x4.B 1 1000 v156 q157
      try simp [q148, q149, g153, g158, q163, q164] at r203
      refine callPure r203 (by simp) rfl ?_
      simp [q148, q149, g153, g158, q163, q164]
    rcases sp h with ⟨g168, h⟩ | ⟨g168, h⟩
    · refine condT rfl g168 ?_
      refine cut 165 0 [(6, .bool false)] [(Api.Program.c p1), (Api.Fun.c f2), (Api.Instr.c x4)] ?_ ?_
      · refine st ?_
        simp
      refine awp_ret ?_
      refine ret_seq ?_
      refine ret_blk ?_
      refine ret_seq ?_
      obtain rfl := oi h
      simp
    refine condF rfl g168 ?_
    refine awp_skip ?_
    refine seq_eq ?_
    refine cut 165 0 [(2, .int .i64 at3), (4, .mptr 1 0), (7, .mptr 2 0), (8, .int .i64 1)] [(Api.Program.c p1), (Api.Fun.c f2), (Api.Instr.c x4)] ?_ ?_
    · refine st ?_
      simp
    refine awp_block ?_
    obtain ⟨o171, l172, h⟩ := bs h
    refine awp_inv (fun p : Nat × Int => mkS 165 0 [(2, .int .i64 at3), (4, .mptr 1 0), (7, .mptr 2 0), (8, .int .i64 p.2)] [(Api.Program.c p1), (Api.Fun.c f2), (Api.Instr.c x4)]) (fun p => M.ref46_right_l1 f2 at3 x4 p.1 p.2 = some o171 ∧ 1 ≤ p.2) (fun p => p.1) (fuel, 1) ⟨l172, by (try dsimp only); omega⟩ (le_mkS (by simp)) ?_
    rintro ⟨k174, k169⟩ ⟨l172, c173⟩
    try dsimp only at l172 c173 ⊢
    cases k174 with
    | zero =>
      rw [M.ref46_right_l1] at l172; cases l172
    | succ k175 =>
      rw [M.ref46_right_l1] at l172
      refine awp_seq ?_
      refine cut 165 0 [(2, .int .i64 at3), (4, .mptr 1 0), (7, .mptr 2 0), (8, .int .i64 k169), (153, .bool (leI k169 x4.B))] [(Api.Program.c p1), (Api.Fun.c f2), (Api.Instr.c x4)] ?_ ?_
      · refine st ?_
        simp
      rcases sp l172 with ⟨g176, l172⟩ | ⟨g176, l172⟩
      · have c177 := leT g176
        refine condT rfl g176 ?_
        refine awp_skip ?_
        refine seq_eq ?_
        refine awp_seq ?_
        refine awp_block ?_
        obtain ⟨n178, q179, l172⟩ := bs l172
        obtain ⟨q180, q181⟩ := chk_ok q179
        try simp at q180
        try simp at q181
        have c182 := q180; simp only [Rng, inR] at c182
        obtain ⟨x183, q184, l172⟩ := bs l172
        obtain ⟨q185, q186⟩ := idx_ok q184
        refine cut 165 0 [(2, .int .i64 at3), (4, .mptr 1 0), (7, .mptr 2 0), (8, .int .i64 k169), (164, .bool (!(eqI x183.Op 14)))] [(Api.Program.c p1), (Api.Fun.c f2), (Api.Instr.c x4)] ?_ ?_
        · refine st ?_
          simp [q180, q181, q185, q186]
        rcases sp l172 with ⟨g187, l172⟩ | ⟨g187, l172⟩
        · have g188 := notT g187
          have c189 := eqF g188
          refine condT rfl g187 ?_
          refine cut 165 0 [(6, .bool false)] [(Api.Program.c p1), (Api.Fun.c f2), (Api.Instr.c x4)] ?_ ?_
          · refine st ?_
            simp
          refine awp_ret ?_
          refine ret_blk ?_
          refine ret_seq ?_
          replace h := retL l172 h
          refine ret_seq ?_
          refine ret_blk ?_
          refine ret_blk ?_
          refine ret_seq ?_
          obtain rfl := oi h
          simp
        have g190 := notF g187
        have c191 := eqT g190
        refine condF rfl g187 ?_
        refine awp_skip ?_
        refine blk_n ?_
        refine seq_eq ?_
        obtain ⟨n192, q193, l172⟩ := bs l172
        obtain ⟨q194, q195⟩ := chk_ok q193
        try simp at q194
        try simp at q195
        have c196 := q194; simp only [Rng, inR] at c196
        refine last 165 0 [(2, .int .i64 at3), (4, .mptr 1 0), (7, .mptr 2 0), (8, .int .i64 n192)] [(Api.Program.c p1), (Api.Fun.c f2), (Api.Instr.c x4)] ?_ fun zz hs => ?_
        · refine st ?_
          simp [q194, q195]
        exact ⟨(k175, n192), hs, ⟨l172, by (try dsimp only); (try unfold maxI); (first | omega | (split <;> omega))⟩, by simp⟩
      have c197 := leF g176
      refine condF rfl g176 ?_
      refine awp_exit ?_
      refine exit_seq ?_
      rcases o171 with o171 | o170
      · cases l172
      have q198 := Sum.inr.inj (Option.some.inj l172)
      replace h := elimR h
      refine exit_seq ?_
      refine exit_blk ?_
      refine blk_n ?_
      refine seq_le (t := mkS 165 0 [] [(Api.Program.c p1), (Api.Fun.c f2), (Api.Instr.c x4)]) ?_ (le_mkS (by simp []))
      refine cut 165 0 [(6, .bool true)] [(Api.Program.c p1), (Api.Fun.c f2), (Api.Instr.c x4)] ?_ ?_
      · refine st ?_
        simp
      refine awp_ret ?_
      obtain rfl := oi h
      simp
  have c204 := eqF g144
  refine condF rfl g144 ?_
  refine awp_skip ?_
  refine blk_n ?_
  refine seq_eq ?_
  refine cut 165 0 [(6, .bool true)] [(Api.Program.c p1), (Api.Fun.c f2), (Api.Instr.c x4)] ?_ ?_
  · refine st ?_
    simp
  refine awp_ret ?_
  obtain rfl := oi h
  simp
end Go.Proofs.Ythbjlmoaceaeeaa
set_option linter.unusedVariables false
set_option linter.unusedSimpArgs false
set_option maxRecDepth 100000
set_option maxHeartbeats 1000000
namespace Go.Proofs.Ythbjlmoaceaeeaa
open Go Go.Abs
theorem ref46_Valid_ok (fuel : Nat) (p1 : Api.Program) (r : Bool) (h : M.ref46_Valid fuel p1 = some r) : Pure Try.prog 26 [.agg [.sl (p1.Funs.map Api.Fun.c), .sl (p1.Texts.map cS), .int .i64 p1.Main]] (.bool r) := by
  rw [M.ref46_Valid] at h
  refine pure_of_body Try.func26 (by rfl) (by rfl) (by simp) (by simp) (by simp) ?_
  refine cut 99 0 [(1, .mptr 0 0)] [(Api.Program.c p1)] ?_ ?_
  · refine st ?_
    simp
  refine awp_seq ?_
  obtain ⟨b26, q27, h⟩ := bs h
  refine cut 99 0 [(1, .mptr 0 0), (37, .bool b26)] [(Api.Program.c p1)] ?_ ?_
  · obtain ⟨v2, q3, q27⟩ := bs q27
    rcases sp q27 with ⟨g4, q27⟩ | ⟨g4, q27⟩
    · have g5 := notT g4
      obtain rfl := oi q27
      refine st ?_
      simp [g4]
      have r114 := ref46_in_ok (p1.Funs.length : Int) 1 4096 v2 q3
      try simp [g4] at r114
      refine callPure r114 (by simp) rfl ?_
      simp [g4]
    have g6 := notF g4
    rcases sp q27 with ⟨g7, q27⟩ | ⟨g7, q27⟩
    · have c8 := ltT g7
      refine factCL 0 1 rfl rfl rfl fun f9 => ?_
      rw [List.length_map] at f9
      obtain rfl := oi q27
      refine st ?_
      simp [g4, g7]
      have r115 := ref46_in_ok (p1.Funs.length : Int) 1 4096 v2 q3
      try simp [g4, g7] at r115
      refine callPure r115 (by simp) rfl ?_
      simp [g4, g7]
    have c10 := ltF g7
    refine factCL 0 1 rfl rfl rfl fun f11 => ?_
    rw [List.length_map] at f11
    obtain ⟨n12, q13, q27⟩ := bs q27
    obtain ⟨q14, q15⟩ := chk_ok q13
    try simp at q14
    try simp at q15
    have c16 := q14; simp only [Rng, inR] at c16
    obtain ⟨v17, q18, q27⟩ := bs q27
    rcases sp q27 with ⟨g19, q27⟩ | ⟨g19, q27⟩
    · have g20 := notT g19
      obtain rfl := oi q27
      refine st ?_
      simp [g4, g7, q14, q15, g19]
      have r116 := ref46_in_ok (p1.Funs.length : Int) 1 4096 v2 q3
      try simp [g4, g7, q14, q15, g19] at r116
      refine callPure r116 (by simp) rfl ?_
      simp [g4, g7, q14, q15, g19]
      have r117 := ref46_in_ok p1.Main 0 n12 v17 q18
      try simp [g4, g7, q14, q15, g19] at r117
      refine callPure r117 (by simp) rfl ?_
      simp [g4, g7, q14, q15, g19]
    have g21 := notF g19
    obtain ⟨x22, q23, q27⟩ := bs q27
    obtain ⟨q24, q25⟩ := idx_ok q23
    obtain rfl := oi q27
    refine st ?_
    simp [g4, g7, q14, q15, g19, q24, q25]
    have r118 := ref46_in_ok (p1.Funs.length : Int) 1 4096 v2 q3
    try simp [g4, g7, q14, q15, g19, q24, q25] at r118
    refine callPure r118 (by simp) rfl ?_
    simp [g4, g7, q14, q15, g19, q24, q25]
    have r119 := ref46_in_ok p1.Main 0 n12 v17 q18
    try simp [g4, g7, q14, q15, g19, q24, q25] at r119
    refine callPure r119 (by simp) rfl ?_
    simp [g4, g7, q14, q15, g19, q24, q25]
  rcases sp h with ⟨g28, h⟩ | ⟨g28, h⟩
  · refine condT rfl g28 ?_
    refine cut 99 0 [(2, .bool false)] [(Api.Program.c p1)] ?_ ?_
    · refine st ?_
      simp
    refine awp_ret ?_
    refine ret_seq ?_
    obtain rfl := oi h
    simp
  refine condF rfl g28 ?_
  refine awp_skip ?_
  refine seq_eq ?_
  refine awp_seq ?_
  refine cut 99 0 [(1, .mptr 0 0), (3, .int .i64 0)] [(Api.Program.c p1)] ?_ ?_
  · refine st ?_
    simp
  refine awp_block ?_
  obtain ⟨o31, l32, h⟩ := bs h
  refine awp_inv (fun p : Nat × Nat => mkS 99 0 [(1, .mptr 0 0), (3, .int .i64 ((p.2 : Nat) : Int))] [(Api.Program.c p1)]) (fun p => M.ref46_Valid_l1 fuel p1 p.1 p.2 = some o31) (fun p => p.1) (fuel, 0) l32 (le_mkS (by simp)) ?_
  rintro ⟨k33, i29⟩ l32
  try dsimp only at l32 ⊢
  cases k33 with
  | zero =>
    rw [M.ref46_Valid_l1] at l32; cases l32
  | succ k34 =>
    rw [M.ref46_Valid_l1] at l32
    refine awp_seq ?_
    refine cut 99 0 [(1, .mptr 0 0), (3, .int .i64 ((i29 : Nat) : Int)), (42, .bool (ltI ((i29 : Nat) : Int) (p1.Texts.length : Int)))] [(Api.Program.c p1)] ?_ ?_
    · refine st ?_
      simp
    rcases sp l32 with ⟨g35, l32⟩ | ⟨g35, l32⟩
    · have c36 := ltT g35
      refine condT rfl g35 ?_
      refine factCL 0 1 rfl rfl rfl fun f37 => ?_
      rw [List.length_map] at f37
      refine awp_skip ?_
      refine seq_eq ?_
      refine awp_seq ?_
      refine awp_block ?_
      obtain ⟨x38, q39, l32⟩ := bs l32
      obtain ⟨v40, q41, l32⟩ := bs l32
      refine cut 99 0 [(1, .mptr 0 0), (3, .int .i64 ((i29 : Nat) : Int)), (51, .bool (!v40))] [(Api.Program.c p1)] ?_ ?_
      · refine st ?_
        simp [q39]
        have r46 := ref46_textual_ok fuel x38 v40 q41
        try simp [q39] at r46
        refine callPure r46 (by simp) rfl ?_
        simp [q39]
      rcases sp l32 with ⟨g42, l32⟩ | ⟨g42, l32⟩
      · have g43 := notT g42
        refine condT rfl g42 ?_
        refine cut 99 0 [(2, .bool false)] [(Api.Program.c p1)] ?_ ?_
        · refine st ?_
          simp
        refine awp_ret ?_
        refine ret_blk ?_
        refine ret_seq ?_
        replace h := retL l32 h
        refine ret_seq ?_
        refine ret_blk ?_
        refine ret_seq ?_
        obtain rfl := oi h
        simp
      have g44 := notF g42
      refine condF rfl g42 ?_
      refine awp_skip ?_
      refine blk_n ?_
      refine seq_eq ?_
      have q45 : Rng .i64 (((i29 : Nat) : Int) + 1) := by simp only [Rng, inR]; omega
      try simp at q45
      refine last 99 0 [(1, .mptr 0 0), (3, .int .i64 ((i29 + 1 : Nat) : Int))] [(Api.Program.c p1)] ?_ fun zz hs => ?_
      · refine st ?_
        simp [q45]
      exact ⟨(k34, i29 + 1), hs, l32, by simp⟩
    have c47 := ltF g35
    refine condF rfl g35 ?_
    refine factCL 0 1 rfl rfl rfl fun f48 => ?_
    rw [List.length_map] at f48
    refine awp_exit ?_
    refine exit_seq ?_
    rcases o31 with o31 | o30
    · cases l32
    have q49 := Sum.inr.inj (Option.some.inj l32)
    replace h := elimR h
    refine exit_seq ?_
    refine exit_blk ?_
    refine seq_le (t := mkS 99 0 [(1, .mptr 0 0)] [(Api.Program.c p1)]) ?_ (le_mkS (by simp []))
    refine awp_seq ?_
    refine cut 99 0 [(1, .mptr 0 0), (4, .int .i64 0)] [(Api.Program.c p1)] ?_ ?_
    · refine st ?_
      simp
    refine awp_block ?_
    obtain ⟨o52, l53, h⟩ := bs h
    refine awp_inv (fun p : Nat × Nat => mkS 99 0 [(1, .mptr 0 0), (4, .int .i64 ((p.2 : Nat) : Int))] [(Api.Program.c p1)]) (fun p => M.ref46_Valid_l2 fuel p1 p.1 p.2 = some o52) (fun p => p.1) (fuel, 0) l53 (le_mkS (by simp)) ?_
    rintro ⟨k54, i50⟩ l53
    try dsimp only at l53 ⊢
    cases k54 with
    | zero =>
      rw [M.ref46_Valid_l2] at l53; cases l53
    | succ k55 =>
      rw [M.ref46_Valid_l2] at l53
      refine awp_seq ?_
      refine cut 99 0 [(1, .mptr 0 0), (4, .int .i64 ((i50 : Nat) : Int)), (56, .bool (ltI ((i50 : Nat) : Int) (p1.Funs.length : Int)))] [(Api.Program.c p1)] ?_ ?_
      · refine st ?_
        simp
      rcases sp l53 with ⟨g56, l53⟩ | ⟨g56, l53⟩
      · have c57 := ltT g56
        refine condT rfl g56 ?_
        refine factCL 0 0 rfl rfl rfl fun f58 => ?_
        rw [List.length_map] at f58
        refine awp_skip ?_
        refine seq_eq ?_
        refine awp_seq ?_
        refine awp_block ?_
        obtain ⟨x59, q60, l53⟩ := bs l53
        refine cut 99 0 [(1, .mptr 0 0), (4, .int .i64 ((i50 : Nat) : Int)), (5, .mptr 1 0)] [(Api.Program.c p1), (Api.Fun.c x59)] ?_ ?_
        · refine st ?_
          simp [q60]
        refine awp_seq ?_
        obtain ⟨b78, q79, l53⟩ := bs l53
        refine cut 99 0 [(1, .mptr 0 0), (4, .int .i64 ((i50 : Nat) : Int)), (5, .mptr 1 0), (86, .bool b78)] [(Api.Program.c p1), (Api.Fun.c x59)] ?_ ?_
        · obtain ⟨v61, q62, q79⟩ := bs q79
          rcases sp q79 with ⟨g63, q79⟩ | ⟨g63, q79⟩
          · have g64 := notT g63
            obtain rfl := oi q79
            refine st ?_
            simp [g63]
            have r101 := ref46_in_ok x59.Captures 0 1000 v61 q62
            try simp [g63] at r101
            refine callPure r101 (by simp) rfl ?_
            simp [g63]
          have g65 := notF g63
          obtain ⟨v66, q67, q79⟩ := bs q79
          rcases sp q79 with ⟨g68, q79⟩ | ⟨g68, q79⟩
          · have g69 := notT g68
            obtain rfl := oi q79
            refine st ?_
            simp [g63, g68]
            have r102 := ref46_in_ok x59.Captures 0 1000 v61 q62
            try simp [g63, g68] at r102
            refine callPure r102 (by simp) rfl ?_
            simp [g63, g68]
            have r103 := ref46_in_ok x59.Locals 1 4096 v66 q67
            try simp [g63, g68] at r103
            refine callPure r103 (by simp) rfl ?_
            simp [g63, g68]
          have g70 := notF g68
          obtain ⟨v71, q72, q79⟩ := bs q79
          rcases sp q79 with ⟨g73, q79⟩ | ⟨g73, q79⟩
          · have g74 := notT g73
            obtain rfl := oi q79
            refine st ?_
            simp [g63, g68, g73]
            have r104 := ref46_in_ok x59.Captures 0 1000 v61 q62
            try simp [g63, g68, g73] at r104
            refine callPure r104 (by simp) rfl ?_
            simp [g63, g68, g73]
            have r105 := ref46_in_ok x59.Locals 1 4096 v66 q67
            try simp [g63, g68, g73] at r105
            refine callPure r105 (by simp) rfl ?_
            simp [g63, g68, g73]
            have r106 := ref46_in_ok x59.Depth 0 4096 v71 q72
            try simp [g63, g68, g73] at r106
            refine callPure r106 (by simp) rfl ?_
            simp [g63, g68, g73]
          have g75 := notF g73
          obtain ⟨v76, q77, q79⟩ := bs q79
          obtain rfl := oi q79
          refine st ?_
          simp [g63, g68, g73]
          have r107 := ref46_in_ok x59.Captures 0 1000 v61 q62
          try simp [g63, g68, g73] at r107
          refine callPure r107 (by simp) rfl ?_
          simp [g63, g68, g73]
          have r108 := ref46_in_ok x59.Locals 1 4096 v66 q67
          try simp [g63, g68, g73] at r108
          refine callPure r108 (by simp) rfl ?_
          simp [g63, g68, g73]
          have r109 := ref46_in_ok x59.Depth 0 4096 v71 q72
          try simp [g63, g68, g73] at r109
          refine callPure r109 (by simp) rfl ?_
          simp [g63, g68, g73]
          have r110 := ref46_in_ok (x59.Code.length : Int) 1 16384 v76 q77
          try simp [g63, g68, g73] at r110
          refine callPure r110 (by simp) rfl ?_
          simp [g63, g68, g73]
        rcases sp l53 with ⟨g80, l53⟩ | ⟨g80, l53⟩
        · refine condT rfl g80 ?_
          refine cut 99 0 [(2, .bool false)] [(Api.Program.c p1), (Api.Fun.c x59)] ?_ ?_
          · refine st ?_
            simp
          refine awp_ret ?_
          refine ret_seq ?_
          refine ret_blk ?_
          refine ret_seq ?_
          replace h := retL l53 h
          refine ret_seq ?_
          refine ret_blk ?_
          refine ret_seq ?_
          obtain rfl := oi h
          simp
        refine condF rfl g80 ?_
        refine awp_skip ?_
        refine seq_eq ?_
        refine cut 99 0 [(1, .mptr 0 0), (4, .int .i64 ((i50 : Nat) : Int)), (5, .mptr 1 0), (6, .int .i64 0)] [(Api.Program.c p1), (Api.Fun.c x59)] ?_ ?_
        · refine st ?_
          simp
        refine awp_block ?_
        obtain ⟨o83, l84, l53⟩ := bs l53
        refine awp_inv (fun p : Nat × Nat => mkS 99 0 [(1, .mptr 0 0), (4, .int .i64 ((i50 : Nat) : Int)), (5, .mptr 1 0), (6, .int .i64 ((p.2 : Nat) : Int))] [(Api.Program.c p1), (Api.Fun.c x59)]) (fun p => M.ref46_Valid_l3 fuel p1 x59 p.1 p.2 = some o83) (fun p => p.1) (fuel, 0) l84 (le_mkS (by simp)) ?_
        rintro ⟨k85, k81⟩ l84
        try dsimp only at l84 ⊢
        cases k85 with
        | zero =>
          rw [M.ref46_Valid_l3] at l84; cases l84
        | succ k86 =>
          rw [M.ref46_Valid_l3] at l84
          refine awp_seq ?_
          refine cut 99 0 [(1, .mptr 0 0), (4, .int .i64 ((i50 : Nat) : Int)), (5, .mptr 1 0), (6, .int .i64 ((k81 : Nat) : Int)), (91, .bool (ltI ((k81 : Nat) : Int) (x59.Code.length : Int)))] [(Api.Program.c p1), (Api.Fun.c x59)] ?_ ?_
          · refine st ?_
            simp
          rcases sp l84 with ⟨g87, l84⟩ | ⟨g87, l84⟩
          · have c88 := ltT g87
            refine condT rfl g87 ?_
            refine factCL 1 3 rfl rfl rfl fun f89 => ?_
            rw [List.length_map] at f89
            refine awp_skip ?_
            refine seq_eq ?_
            refine awp_seq ?_
            refine awp_block ?_
            obtain ⟨v90, q91, l84⟩ := bs l84
            refine cut 99 0 [(1, .mptr 0 0), (4, .int .i64 ((i50 : Nat) : Int)), (5, .mptr 1 0), (6, .int .i64 ((k81 : Nat) : Int)), (98, .bool (!v90))] [(Api.Program.c p1), (Api.Fun.c x59)] ?_ ?_
            · refine st ?_
              simp
              have r96 := ref46_right_ok fuel p1 x59 ((k81 : Nat) : Int) v90 q91
              try simp [] at r96
              refine callPure r96 (by simp) rfl ?_
              simp
            rcases sp l84 with ⟨g92, l84⟩ | ⟨g92, l84⟩
            · have g93 := notT g92
              refine condT rfl g92 ?_
              refine cut 99 0 [(2, .bool false)] [(Api.Program.c p1), (Api.Fun.c x59)] ?_ ?_
              · refine st ?_
                simp
              refine awp_ret ?_
              refine ret_blk ?_
              refine ret_seq ?_
              replace l53 := retL l84 l53
              refine ret_seq ?_
              refine ret_blk ?_
              refine ret_blk ?_
              refine ret_seq ?_
              replace h := retL l53 h
              refine ret_seq ?_
              refine ret_blk ?_
              refine ret_seq ?_
              obtain rfl := oi h
              simp
            have g94 := notF g92
            refine condF rfl g92 ?_
            refine awp_skip ?_
            refine blk_n ?_
            refine seq_eq ?_
            have q95 : Rng .i64 (((k81 : Nat) : Int) + 1) := by simp only [Rng, inR]; omega
            try simp at q95
            refine last 99 0 [(1, .mptr 0 0), (4, .int .i64 ((i50 : Nat) : Int)), (5, .mptr 1 0), (6, .int .i64 ((k81 + 1 : Nat) : Int))] [(Api.Program.c p1), (Api.Fun.c x59)] ?_ fun zz hs => ?_
            · refine st ?_
              simp [q95]
            exact ⟨(k86, k81 + 1), hs, l84, by simp⟩
          have c97 := ltF g87
          refine condF rfl g87 ?_
          refine factCL 1 3 rfl rfl rfl fun f98 => ?_
          rw [List.length_map] at f98
          refine awp_exit ?_
          refine exit_seq ?_
          rcases o83 with o83 | o82
          · cases l84
          have q99 := Sum.inr.inj (Option.some.inj l84)
          replace l53 := elimR l53
          refine exit_seq ?_
          refine exit_blk ?_
          refine blk_n ?_
          refine seq_le (t := mkS 99 0 [(1, .mptr 0 0), (4, .int .i64 ((i50 : Nat) : Int))] [(Api.Program.c p1), (Api.Fun.c x59)]) ?_ (le_mkS (by simp []))
          have q100 : Rng .i64 (((i50 : Nat) : Int) + 1) := by simp only [Rng, inR]; omega
          try simp at q100
          refine last 99 0 [(1, .mptr 0 0), (4, .int .i64 ((i50 + 1 : Nat) : Int))] [(Api.Program.c p1)] ?_ fun zz hs => ?_
          · refine st ?_
            simp [q100]
          exact ⟨(k55, i50 + 1), hs, l53, by simp⟩
      have c111 := ltF g56
      refine condF rfl g56 ?_
      refine factCL 0 0 rfl rfl rfl fun f112 => ?_
      rw [List.length_map] at f112
      refine awp_exit ?_
      refine exit_seq ?_
      rcases o52 with o52 | o51
      · cases l53
      have q113 := Sum.inr.inj (Option.some.inj l53)
      replace h := elimR h
      refine exit_seq ?_
      refine exit_blk ?_
      refine seq_le (t := mkS 99 0 [] [(Api.Program.c p1)]) ?_ (le_mkS (by simp []))
      refine cut 99 0 [(2, .bool true)] [(Api.Program.c p1)] ?_ ?_
      · refine st ?_
        simp
      refine awp_ret ?_
      obtain rfl := oi h
      simp
end Go.Proofs.Ythbjlmoaceaeeaa
set_option linter.unusedVariables false
set_option linter.unusedSimpArgs false
set_option maxRecDepth 100000
set_option maxHeartbeats 1000000
namespace Go.Proofs.Ythbjlmoaceaeeaa
open Go Go.Abs
theorem ref48_both_ok (fuel : Nat) (a1 : (List Bool)) (b2 : (List Bool)) (r : (List Bool)) (h : M.ref48_both fuel a1 b2 = some r) : Pure Try.prog 127 [.sl (a1.map cB), .sl (b2.map cB)] (.sl (r.map cB)) := by
  rw [M.ref48_both] at h
  refine pure_of_bodyF [true] Try.func127 (by rfl) (by rfl) (by simp) (by simp) (by simp) ?_
  refine cut 30 0 [(0, .sl (a1.map cB)), (1, .sl (b2.map cB))] [] ?_ ?_
  · refine st ?_
    simp
  obtain ⟨l3, q4, h⟩ := bs h
  obtain ⟨q5, q6⟩ := mkL_ok q4
  have q7 := mkL_len q6
  have q8 := mkL_row (c := cB) q6
  try simp at q7
  try simp at q8
  try simp at q5
  refine cut 30 0 [(0, .sl (a1.map cB)), (1, .sl (b2.map cB)), (5, .msl 0 1 l3.length)] [row cB l3] ?_ ?_
  · refine st ?_
    simp [q5, q7, q8]
  refine awp_seq ?_
  refine cut 30 0 [(0, .sl (a1.map cB)), (1, .sl (b2.map cB)), (5, .msl 0 1 l3.length), (6, .int .i64 0)] [row cB l3] ?_ ?_
  · refine st ?_
    simp
  refine awp_block ?_
  obtain ⟨o11, l12, h⟩ := bs h
  refine awp_inv (fun p : Nat × (List Bool) × Nat => mkS 30 0 [(0, .sl (a1.map cB)), (1, .sl (b2.map cB)), (5, .msl 0 1 p.2.1.length), (6, .int .i64 ((p.2.2 : Nat) : Int))] [row cB p.2.1]) (fun p => M.ref48_both_l1 a1 b2 p.1 p.2.1 p.2.2 = some o11) (fun p => p.1) (fuel, l3, 0) l12 (le_mkS (by simp)) ?_
  rintro ⟨k13, l9, i10⟩ l12
  try dsimp only at l12 ⊢
  cases k13 with
  | zero =>
    rw [M.ref48_both_l1] at l12; cases l12
  | succ k14 =>
    rw [M.ref48_both_l1] at l12
    refine awp_seq ?_
    refine cut 30 0 [(0, .sl (a1.map cB)), (1, .sl (b2.map cB)), (5, .msl 0 1 l9.length), (6, .int .i64 ((i10 : Nat) : Int)), (13, .bool (ltI ((i10 : Nat) : Int) (a1.length : Int)))] [row cB l9] ?_ ?_
    · refine st ?_
      simp
    rcases sp l12 with ⟨g15, l12⟩ | ⟨g15, l12⟩
    · have c16 := ltT g15
      refine condT rfl g15 ?_
      refine factL 0 rfl fun f17 => ?_
      rw [List.length_map] at f17
      refine awp_skip ?_
      refine seq_eq ?_
      refine awp_seq ?_
      refine awp_block ?_
      obtain ⟨v31, q32, l12⟩ := bs l12
      refine last 30 0 [(0, .sl (a1.map cB)), (1, .sl (b2.map cB)), (5, .msl 0 1 v31.length), (6, .int .i64 ((i10 : Nat) : Int))] [row cB v31] ?_ fun zz hs => ?_
      · obtain ⟨x18, q19, q32⟩ := bs q32
        rcases sp q32 with ⟨g20, q32⟩ | ⟨g20, q32⟩
        · obtain ⟨x21, q22, q32⟩ := bs q32
          obtain ⟨u23, q24, q32⟩ := bs q32
          have q25 := ixC_ok q24
          have q26 := ixC_nat q24
          try simp at q25
          try simp at q26
          obtain rfl := oi q32
          refine st ?_
          simp [q19, g20, q22, q25, q26]
        obtain ⟨u27, q28, q32⟩ := bs q32
        have q29 := ixC_ok q28
        have q30 := ixC_nat q28
        try simp at q29
        try simp at q30
        obtain rfl := oi q32
        refine st ?_
        simp [q19, g20, q29, q30]
      refine blk_n ?_
      refine seq_le ?_ hs
      have q33 : Rng .i64 (((i10 : Nat) : Int) + 1) := by simp only [Rng, inR]; omega
      try simp at q33
      refine last 30 0 [(0, .sl (a1.map cB)), (1, .sl (b2.map cB)), (5, .msl 0 1 v31.length), (6, .int .i64 ((i10 + 1 : Nat) : Int))] [row cB v31] ?_ fun zz hs => ?_
      · refine st ?_
        simp [q33]
      exact ⟨(k14, v31, i10 + 1), hs, l12, by simp⟩
    have c34 := ltF g15
    refine condF rfl g15 ?_
    refine factL 0 rfl fun f35 => ?_
    rw [List.length_map] at f35
    refine awp_exit ?_
    refine exit_seq ?_
    have q36 := Option.some.inj l12
    have q36 := q36.symm
    refine exit_seq ?_
    refine exit_blk ?_
    refine seq_le (t := mkS 30 0 [(5, .msl 0 1 o11.length)] [row cB o11]) ?_ (le_mkS (by simp [q36]))
    refine cut 30 0 [(4, .msl 0 1 o11.length)] [row cB o11] ?_ ?_
    · refine st ?_
      simp
    refine awp_ret ?_
    obtain rfl := oi h
    simp
end Go.Proofs.Ythbjlmoaceaeeaa
set_option linter.unusedVariables false
set_option linter.unusedSimpArgs false
set_option maxRecDepth 100000
set_option maxHeartbeats 1000000
namespace Go.Proofs.Ythbjlmoaceaeeaa
open Go Go.Abs
theorem ref48_same_ok (fuel : Nat) (a1 : (List Bool)) (b2 : (List Bool)) (r : Bool) (h : M.ref48_same fuel a1 b2 = some r) : Pure Try.prog 128 [.sl (a1.map cB), .sl (b2.map cB)] (.bool r) := by
  rw [M.ref48_same] at h
  refine pure_of_body Try.func128 (by rfl) (by rfl) (by simp) (by simp) (by simp) ?_
  refine cut 21 0 [(0, .sl (a1.map cB)), (1, .sl (b2.map cB))] [] ?_ ?_
  · refine st ?_
    simp
  refine awp_seq ?_
  refine cut 21 0 [(0, .sl (a1.map cB)), (1, .sl (b2.map cB)), (5, .int .i64 0)] [] ?_ ?_
  · refine st ?_
    simp
  refine awp_block ?_
  obtain ⟨o5, l6, h⟩ := bs h
  refine awp_inv (fun p : Nat × Nat => mkS 21 0 [(0, .sl (a1.map cB)), (1, .sl (b2.map cB)), (5, .int .i64 ((p.2 : Nat) : Int))] []) (fun p => M.ref48_same_l1 a1 b2 p.1 p.2 = some o5) (fun p => p.1) (fuel, 0) l6 (le_mkS (by simp)) ?_
  rintro ⟨k7, i3⟩ l6
  try dsimp only at l6 ⊢
  cases k7 with
  | zero =>
    rw [M.ref48_same_l1] at l6; cases l6
  | succ k8 =>
    rw [M.ref48_same_l1] at l6
    refine awp_seq ?_
    refine cut 21 0 [(0, .sl (a1.map cB)), (1, .sl (b2.map cB)), (5, .int .i64 ((i3 : Nat) : Int)), (9, .bool (ltI ((i3 : Nat) : Int) (a1.length : Int)))] [] ?_ ?_
    · refine st ?_
      simp
    rcases sp l6 with ⟨g9, l6⟩ | ⟨g9, l6⟩
    · have c10 := ltT g9
      refine condT rfl g9 ?_
      refine factL 0 rfl fun f11 => ?_
      rw [List.length_map] at f11
      refine awp_skip ?_
      refine seq_eq ?_
      refine awp_seq ?_
      refine awp_block ?_
      obtain ⟨x12, q13, l6⟩ := bs l6
      obtain ⟨x14, q15, l6⟩ := bs l6
      refine cut 21 0 [(0, .sl (a1.map cB)), (1, .sl (b2.map cB)), (5, .int .i64 ((i3 : Nat) : Int)), (20, .bool (!(eqB x12 x14)))] [] ?_ ?_
      · refine awp_region_draw [] mixed (n := 21) rfl (by decide) ?_
        simp [q13, q15]
      rcases sp l6 with ⟨g16, l6⟩ | ⟨g16, l6⟩
      · have g17 := notT g16
        refine condT rfl g16 ?_
        refine cut 21 0 [(4, .bool false)] [] ?_ ?_
        · refine st ?_
          simp
        refine awp_ret ?_
        refine ret_blk ?_
        refine ret_seq ?_
        replace h := retL l6 h
        refine ret_seq ?_
        refine ret_blk ?_
        refine ret_seq ?_
        obtain rfl := oi h
        simp
      have g18 := notF g16
      refine condF rfl g16 ?_
      refine awp_skip ?_
      refine blk_n ?_
      refine seq_eq ?_
      have q19 : Rng .i64 (((i3 : Nat) : Int) + 1) := by simp only [Rng, inR]; omega
      try simp at q19
      refine last 21 0 [(0, .sl (a1.map cB)), (1, .sl (b2.map cB)), (5, .int .i64 ((i3 + 1 : Nat) : Int))] [] ?_ fun zz hs => ?_
      · refine st ?_
        simp [q19]
      exact ⟨(k8, i3 + 1), hs, l6, by simp⟩
    have c20 := ltF g9
    refine condF rfl g9 ?_
    refine factL 0 rfl fun f21 => ?_
    rw [List.length_map] at f21
    refine awp_exit ?_
    refine exit_seq ?_
    rcases o5 with o5 | o4
    · cases l6
    have q22 := Sum.inr.inj (Option.some.inj l6)
    replace h := elimR h
    refine exit_seq ?_
    refine exit_blk ?_
    refine seq_le (t := mkS 21 0 [] []) ?_ (le_mkS (by simp []))
    refine cut 21 0 [(4, .bool true)] [] ?_ ?_
    · refine st ?_
      simp
    refine awp_ret ?_
    obtain rfl := oi h
    simp
end Go.Proofs.Ythbjlmoaceaeeaa
set_option linter.unusedVariables false
set_option linter.unusedSimpArgs false
set_option maxRecDepth 100000
set_option maxHeartbeats 1000000
namespace Go.Proofs.Ythbjlmoaceaeeaa
open Go Go.Abs
theorem ref48_meets_ok (fuel : Nat) (at1 : Int) (depth2 : Int) (set3 : (List Bool)) (l4 : (List Bool)) (l5 : (List Int)) (l6 : (List (List Bool))) (r : Bool × Bool × (List Bool) × (List Int) × (List (List Bool))) (h : M.ref48_meets fuel at1 depth2 set3 l4 l5 l6 = some r) : Raw Try.prog 86 [.agg [.msl 0 1 l4.length, .msl 1 1 l5.length, .msl 2 1 l6.length], .int .i64 at1, .int .i64 depth2, .sl (set3.map cB)] [row cB l4, row (cI .i64) l5, row (cL cB) l6] (.tup [.bool r.1, .bool r.2.1]) [row cB r.2.2.1, row (cI .i64) r.2.2.2.1, row (cL cB) r.2.2.2.2] := by
  rw [M.ref48_meets] at h
  refine raw_of_bodyB Try.func86 (by rfl) (by rfl) (by simp) (by simp) ?_
  refine cut 57 3 [(1, .int .i64 at1), (2, .int .i64 depth2), (3, .sl (set3.map cB)), (4, .mptr 3 0)] [row cB l4, row (cI .i64) l5, row (cL cB) l6, [.msl 0 1 l4.length, .msl 1 1 l5.length, .msl 2 1 l6.length]] ?_ ?_
  · refine st ?_
    simp
  refine awp_seq ?_
  obtain ⟨u7, q8, h⟩ := bs h
  have q9 := ixC_ok q8
  have q10 := ixC_nat q8
  try simp at q9
  try simp at q10
  obtain ⟨x11, q12, h⟩ := bs h
  have q13 := row_drop1 rc_B q12
  have q14 := row_get1 rc_B q12
  have q15 := row_getE1 rc_B q12
  try simp at q13
  try simp at q14
  try simp at q15
  refine cut 57 3 [(1, .int .i64 at1), (2, .int .i64 depth2), (3, .sl (set3.map cB)), (4, .mptr 3 0), (16, .bool (!x11))] [row cB l4, row (cI .i64) l5, row (cL cB) l6, [.msl 0 1 l4.length, .msl 1 1 l5.length, .msl 2 1 l6.length]] ?_ ?_
  · refine st ?_
    simp [q9, q10, q12, q13, q14, q15]
  rcases sp h with ⟨g16, h⟩ | ⟨g16, h⟩
  · have g17 := notT g16
    refine condT rfl g16 ?_
    obtain ⟨u18, q19, h⟩ := bs h
    have q20 := ixC_ok q19
    have q21 := ixC_nat q19
    try simp at q20
    try simp at q21
    obtain ⟨u22, q23, h⟩ := bs h
    have q24 := ixC_ok q23
    have q25 := ixC_nat q23
    try simp at q24
    try simp at q25
    obtain ⟨u26, q27, h⟩ := bs h
    have q28 := ixC_ok q27
    have q29 := ixC_nat q27
    try simp at q28
    try simp at q29
    refine cut 57 3 [] [row cB (l4.set (Int.toNat at1) true), row (cI .i64) (l5.set (Int.toNat at1) depth2), row (cL cB) (l6.set (Int.toNat at1) set3), [.msl 0 1 ((l4.set (Int.toNat at1) true).length), .msl 1 1 ((l5.set (Int.toNat at1) depth2).length), .msl 2 1 ((l6.set (Int.toNat at1) set3).length)]] ?_ ?_
    · refine awp_region_draw [0, 1, 2] mixed (n := 57) rfl (by decide) ?_
      simp [q20, q21, q24, q25, q28, q29]
    refine cut 57 3 [(8, .bool true), (9, .bool true)] [row cB (l4.set (Int.toNat at1) true), row (cI .i64) (l5.set (Int.toNat at1) depth2), row (cL cB) (l6.set (Int.toNat at1) set3), [.msl 0 1 ((l4.set (Int.toNat at1) true).length), .msl 1 1 ((l5.set (Int.toNat at1) depth2).length), .msl 2 1 ((l6.set (Int.toNat at1) set3).length)]] ?_ ?_
    · refine st ?_
      simp
    refine awp_ret ?_
    refine ret_seq ?_
    obtain rfl := oi h
    simp
  have g30 := notF g16
  refine condF rfl g16 ?_
  refine awp_skip ?_
  refine seq_eq ?_
  refine awp_seq ?_
  obtain ⟨u31, q32, h⟩ := bs h
  have q33 := ixC_ok q32
  have q34 := ixC_nat q32
  try simp at q33
  try simp at q34
  obtain ⟨x35, q36, h⟩ := bs h
  have q37 := row_drop1 (rc_I .i64) q36
  have q38 := row_get1 (rc_I .i64) q36
  have q39 := row_getE1 (rc_I .i64) q36
  try simp at q37
  try simp at q38
  try simp at q39
  refine cut 57 3 [(1, .int .i64 at1), (3, .sl (set3.map cB)), (4, .mptr 3 0), (37, .bool (!(eqI x35 depth2)))] [row cB l4, row (cI .i64) l5, row (cL cB) l6, [.msl 0 1 l4.length, .msl 1 1 l5.length, .msl 2 1 l6.length]] ?_ ?_
  · refine st ?_
    simp [q33, q34, q36, q37, q38, q39]
  rcases sp h with ⟨g40, h⟩ | ⟨g40, h⟩
  · have g41 := notT g40
    have c42 := eqF g41
    refine condT rfl g40 ?_
    refine cut 57 3 [(8, .bool false), (9, .bool false)] [row cB l4, row (cI .i64) l5, row (cL cB) l6, [.msl 0 1 l4.length, .msl 1 1 l5.length, .msl 2 1 l6.length]] ?_ ?_
    · refine st ?_
      simp
    refine awp_ret ?_
    refine ret_seq ?_
    obtain rfl := oi h
    simp
  have g43 := notF g40
  have c44 := eqT g43
  refine condF rfl g40 ?_
  refine awp_skip ?_
  refine seq_eq ?_
  obtain ⟨u45, q46, h⟩ := bs h
  have q47 := ixC_ok q46
  have q48 := ixC_nat q46
  try simp at q47
  try simp at q48
  obtain ⟨x49, q50, h⟩ := bs h
  have q51 := row_drop1 (rc_L cB) q50
  have q52 := row_get1 (rc_L cB) q50
  have q53 := row_getE1 (rc_L cB) q50
  try simp at q51
  try simp at q52
  try simp at q53
  obtain ⟨v54, q55, h⟩ := bs h
  refine cut 57 3 [(1, .int .i64 at1), (4, .mptr 3 0), (10, .sl (v54.map cB))] [row cB l4, row (cI .i64) l5, row (cL cB) l6, [.msl 0 1 l4.length, .msl 1 1 l5.length, .msl 2 1 l6.length]] ?_ ?_
  · refine st ?_
    simp [q47, q48, q50, q51, q52, q53]
    have r73 := ref48_both_ok fuel x49 set3 v54 q55
    try simp [q47, q48, q50, q51, q52, q53] at r73
    refine callPure r73 (by simp) rfl ?_
    simp [q47, q48, q50, q51, q52, q53]
  refine awp_seq ?_
  obtain ⟨u56, q57, h⟩ := bs h
  have q58 := ixC_ok q57
  have q59 := ixC_nat q57
  try simp at q58
  try simp at q59
  obtain ⟨x60, q61, h⟩ := bs h
  have q62 := row_drop1 (rc_L cB) q61
  have q63 := row_get1 (rc_L cB) q61
  have q64 := row_getE1 (rc_L cB) q61
  try simp at q62
  try simp at q63
  try simp at q64
  obtain ⟨v65, q66, h⟩ := bs h
  refine cut 57 3 [(1, .int .i64 at1), (4, .mptr 3 0), (10, .sl (v54.map cB)), (51, .bool v65)] [row cB l4, row (cI .i64) l5, row (cL cB) l6, [.msl 0 1 l4.length, .msl 1 1 l5.length, .msl 2 1 l6.length]] ?_ ?_
  · refine st ?_
    simp [q58, q59, q61, q62, q63, q64]
    have r72 := ref48_same_ok fuel v54 x60 v65 q66
    try simp [q58, q59, q61, q62, q63, q64] at r72
    refine callPure r72 (by simp) rfl ?_
    simp [q58, q59, q61, q62, q63, q64]
  rcases sp h with ⟨g67, h⟩ | ⟨g67, h⟩
  · refine condT rfl g67 ?_
    refine cut 57 3 [(8, .bool true), (9, .bool false)] [row cB l4, row (cI .i64) l5, row (cL cB) l6, [.msl 0 1 l4.length, .msl 1 1 l5.length, .msl 2 1 l6.length]] ?_ ?_
    · refine st ?_
      simp
    refine awp_ret ?_
    refine ret_seq ?_
    obtain rfl := oi h
    simp
  refine condF rfl g67 ?_
  refine awp_skip ?_
  refine seq_eq ?_
  obtain ⟨u68, q69, h⟩ := bs h
  have q70 := ixC_ok q69
  have q71 := ixC_nat q69
  try simp at q70
  try simp at q71
  refine cut 57 3 [] [row cB l4, row (cI .i64) l5, row (cL cB) (l6.set (Int.toNat at1) v54), [.msl 0 1 l4.length, .msl 1 1 l5.length, .msl 2 1 ((l6.set (Int.toNat at1) v54).length)]] ?_ ?_
  · refine st ?_
    simp [q70, q71]
  refine cut 57 3 [(8, .bool true), (9, .bool true)] [row cB l4, row (cI .i64) l5, row (cL cB) (l6.set (Int.toNat at1) v54), [.msl 0 1 l4.length, .msl 1 1 l5.length, .msl 2 1 ((l6.set (Int.toNat at1) v54).length)]] ?_ ?_
  · refine st ?_
    simp
  refine awp_ret ?_
  obtain rfl := oi h
  simp
end Go.Proofs.Ythbjlmoaceaeeaa
set_option linter.unusedVariables false
set_option linter.unusedSimpArgs false
set_option maxRecDepth 100000
set_option maxHeartbeats 1000000
namespace Go.Proofs.Ythbjlmoaceaeeaa
open Go Go.Abs
theorem ref46_Effect_ok (i1 : Api.Instr) (r : Int × Int × Int) (h : M.ref46_Effect i1 = some r) : Pure Try.prog 129 [.agg [.int .i64 i1.Op, .int .i64 i1.A, .int .i64 i1.B]] (.tup [.int .i64 r.1, .int .i64 r.2.1, .int .i64 r.2.2]) := by
  rw [M.ref46_Effect] at h
  refine pure_of_body Try.func129 (by rfl) (by rfl) (by simp) (by simp) (by simp) ?_
  refine cut 47 0 [(1, .mptr 0 0)] [(Api.Instr.c i1)] ?_ ?_
  · refine st ?_
    simp
  refine cut 47 0 [(1, .mptr 0 0), (5, .int .i64 0), (6, .int .i64 1)] [(Api.Instr.c i1)] ?_ ?_
  · refine st ?_
    simp
  refine awp_seq ?_
  refine cut 47 0 [(1, .mptr 0 0), (5, .int .i64 0), (6, .int .i64 1), (8, .int .i64 i1.Op)] [(Api.Instr.c i1)] ?_ ?_
  · refine st ?_
    simp
  refine awp_block ?_
  refine awp_seq ?_
  refine cut 47 0 [(1, .mptr 0 0), (5, .int .i64 0), (6, .int .i64 1), (8, .int .i64 i1.Op), (9, .bool (eqI i1.Op 1))] [(Api.Instr.c i1)] ?_ ?_
  · refine st ?_
    simp
  rcases sp h with ⟨g2, h⟩ | ⟨g2, h⟩
  · have c3 := eqT g2
    refine condT rfl g2 ?_
    refine awp_skip ?_
    refine seq_eq ?_
    refine condT rfl (by simp [g2]) ?_
    refine awp_skip ?_
    refine blk_n ?_
    refine seq_eq ?_
    refine awp_seq ?_
    obtain ⟨v4, q5, h⟩ := bs h
    refine cut 47 0 [(5, .int .i64 0), (6, .int .i64 1), (44, .bool (!v4))] [(Api.Instr.c i1)] ?_ ?_
    · refine st ?_
      simp
      have r9 := ref46_in_ok 0 0 1000 v4 q5
      try simp [] at r9
      refine callPure r9 (by simp) rfl ?_
      simp
    rcases sp h with ⟨g6, h⟩ | ⟨g6, h⟩
    · have g7 := notT g6
      refine condT rfl g6 ?_
      refine cut 47 0 [(2, .int .i64 0), (3, .int .i64 0), (4, .int .i64 2)] [(Api.Instr.c i1)] ?_ ?_
      · refine st ?_
        simp
      refine awp_ret ?_
      refine ret_seq ?_
      obtain rfl := oi h
      simp
    have g8 := notF g6
    refine condF rfl g6 ?_
    refine awp_skip ?_
    refine seq_eq ?_
    refine cut 47 0 [(2, .int .i64 0), (3, .int .i64 1), (4, .int .i64 0)] [(Api.Instr.c i1)] ?_ ?_
    · refine st ?_
      simp
    refine awp_ret ?_
    obtain rfl := oi h
    simp
  have c10 := eqF g2
  refine condF rfl g2 ?_
  refine cut 47 0 [(1, .mptr 0 0), (5, .int .i64 0), (6, .int .i64 1), (8, .int .i64 i1.Op), (9, .bool (eqI i1.Op 2))] [(Api.Instr.c i1)] ?_ ?_
  · refine st ?_
    simp
  rcases sp h with ⟨g11, h⟩ | ⟨g11, h⟩
  · have c12 := eqT g11
    refine condT rfl g11 ?_
    refine awp_skip ?_
    refine seq_eq ?_
    refine condT rfl (by simp [g11]) ?_
    refine awp_skip ?_
    refine blk_n ?_
    refine seq_eq ?_
    refine awp_seq ?_
    obtain ⟨v13, q14, h⟩ := bs h
    refine cut 47 0 [(5, .int .i64 0), (6, .int .i64 1), (44, .bool (!v13))] [(Api.Instr.c i1)] ?_ ?_
    · refine st ?_
      simp
      have r18 := ref46_in_ok 0 0 1000 v13 q14
      try simp [] at r18
      refine callPure r18 (by simp) rfl ?_
      simp
    rcases sp h with ⟨g15, h⟩ | ⟨g15, h⟩
    · have g16 := notT g15
      refine condT rfl g15 ?_
      refine cut 47 0 [(2, .int .i64 0), (3, .int .i64 0), (4, .int .i64 2)] [(Api.Instr.c i1)] ?_ ?_
      · refine st ?_
        simp
      refine awp_ret ?_
      refine ret_seq ?_
      obtain rfl := oi h
      simp
    have g17 := notF g15
    refine condF rfl g15 ?_
    refine awp_skip ?_
    refine seq_eq ?_
    refine cut 47 0 [(2, .int .i64 0), (3, .int .i64 1), (4, .int .i64 0)] [(Api.Instr.c i1)] ?_ ?_
    · refine st ?_
      simp
    refine awp_ret ?_
    obtain rfl := oi h
    simp
  have c19 := eqF g11
  refine condF rfl g11 ?_
  refine cut 47 0 [(1, .mptr 0 0), (5, .int .i64 0), (6, .int .i64 1), (8, .int .i64 i1.Op), (9, .bool (eqI i1.Op 3))] [(Api.Instr.c i1)] ?_ ?_
  · refine st ?_
    simp
  rcases sp h with ⟨g20, h⟩ | ⟨g20, h⟩
  · have c21 := eqT g20
    refine condT rfl g20 ?_
    refine awp_skip ?_
    refine seq_eq ?_
    refine condT rfl (by simp [g20]) ?_
    refine awp_skip ?_
    refine blk_n ?_
    refine seq_eq ?_
    refine awp_seq ?_
    obtain ⟨v22, q23, h⟩ := bs h
    refine cut 47 0 [(5, .int .i64 0), (6, .int .i64 1), (44, .bool (!v22))] [(Api.Instr.c i1)] ?_ ?_
    · refine st ?_
      simp
      have r27 := ref46_in_ok 0 0 1000 v22 q23
      try simp [] at r27
      refine callPure r27 (by simp) rfl ?_
      simp
    rcases sp h with ⟨g24, h⟩ | ⟨g24, h⟩
    · have g25 := notT g24
      refine condT rfl g24 ?_
      refine cut 47 0 [(2, .int .i64 0), (3, .int .i64 0), (4, .int .i64 2)] [(Api.Instr.c i1)] ?_ ?_
      · refine st ?_
        simp
      refine awp_ret ?_
      refine ret_seq ?_
      obtain rfl := oi h
      simp
    have g26 := notF g24
    refine condF rfl g24 ?_
    refine awp_skip ?_
    refine seq_eq ?_
    refine cut 47 0 [(2, .int .i64 0), (3, .int .i64 1), (4, .int .i64 0)] [(Api.Instr.c i1)] ?_ ?_
    · refine st ?_
      simp
    refine awp_ret ?_
    obtain rfl := oi h
    simp
  have c28 := eqF g20
  refine condF rfl g20 ?_
  refine cut 47 0 [(1, .mptr 0 0), (5, .int .i64 0), (6, .int .i64 1), (8, .int .i64 i1.Op), (9, .bool (eqI i1.Op 5))] [(Api.Instr.c i1)] ?_ ?_
  · refine st ?_
    simp
  rcases sp h with ⟨g29, h⟩ | ⟨g29, h⟩
  · have c30 := eqT g29
    refine condT rfl g29 ?_
    refine awp_skip ?_
    refine seq_eq ?_
    refine condT rfl (by simp [g29]) ?_
    refine awp_skip ?_
    refine blk_n ?_
    refine seq_eq ?_
    refine awp_seq ?_
    obtain ⟨v31, q32, h⟩ := bs h
    refine cut 47 0 [(5, .int .i64 0), (6, .int .i64 1), (44, .bool (!v31))] [(Api.Instr.c i1)] ?_ ?_
    · refine st ?_
      simp
      have r36 := ref46_in_ok 0 0 1000 v31 q32
      try simp [] at r36
      refine callPure r36 (by simp) rfl ?_
      simp
    rcases sp h with ⟨g33, h⟩ | ⟨g33, h⟩
    · have g34 := notT g33
      refine condT rfl g33 ?_
      refine cut 47 0 [(2, .int .i64 0), (3, .int .i64 0), (4, .int .i64 2)] [(Api.Instr.c i1)] ?_ ?_
      · refine st ?_
        simp
      refine awp_ret ?_
      refine ret_seq ?_
      obtain rfl := oi h
      simp
    have g35 := notF g33
    refine condF rfl g33 ?_
    refine awp_skip ?_
    refine seq_eq ?_
    refine cut 47 0 [(2, .int .i64 0), (3, .int .i64 1), (4, .int .i64 0)] [(Api.Instr.c i1)] ?_ ?_
    · refine st ?_
      simp
    refine awp_ret ?_
    obtain rfl := oi h
    simp
  have c37 := eqF g29
  refine condF rfl g29 ?_
  refine last 47 0 [(1, .mptr 0 0), (5, .int .i64 0), (6, .int .i64 1), (8, .int .i64 i1.Op), (9, .bool (eqI i1.Op 6))] [(Api.Instr.c i1)] ?_ fun zz hs => ?_
  · refine st ?_
    simp
  refine seq_le ?_ hs
  rcases sp h with ⟨g38, h⟩ | ⟨g38, h⟩
  · have c39 := eqT g38
    refine condT rfl g38 ?_
    refine awp_skip ?_
    refine blk_n ?_
    refine seq_eq ?_
    refine awp_seq ?_
    obtain ⟨v40, q41, h⟩ := bs h
    refine cut 47 0 [(5, .int .i64 0), (6, .int .i64 1), (44, .bool (!v40))] [(Api.Instr.c i1)] ?_ ?_
    · refine st ?_
      simp
      have r45 := ref46_in_ok 0 0 1000 v40 q41
      try simp [] at r45
      refine callPure r45 (by simp) rfl ?_
      simp
    rcases sp h with ⟨g42, h⟩ | ⟨g42, h⟩
    · have g43 := notT g42
      refine condT rfl g42 ?_
      refine cut 47 0 [(2, .int .i64 0), (3, .int .i64 0), (4, .int .i64 2)] [(Api.Instr.c i1)] ?_ ?_
      · refine st ?_
        simp
      refine awp_ret ?_
      refine ret_seq ?_
      obtain rfl := oi h
      simp
    have g44 := notF g42
    refine condF rfl g42 ?_
    refine awp_skip ?_
    refine seq_eq ?_
    refine cut 47 0 [(2, .int .i64 0), (3, .int .i64 1), (4, .int .i64 0)] [(Api.Instr.c i1)] ?_ ?_
    · refine st ?_
      simp
    refine awp_ret ?_
    obtain rfl := oi h
    simp
  have c46 := eqF g38
  refine condF rfl g38 ?_
  refine awp_seq ?_
  refine cut 47 0 [(1, .mptr 0 0), (5, .int .i64 0), (6, .int .i64 1), (8, .int .i64 i1.Op), (15, .bool (eqI i1.Op 4))] [(Api.Instr.c i1)] ?_ ?_
  · refine st ?_
    simp
  rcases sp h with ⟨g47, h⟩ | ⟨g47, h⟩
  · have c48 := eqT g47
    refine condT rfl g47 ?_
    refine awp_skip ?_
    refine seq_eq ?_
    refine condT rfl (by simp [g47]) ?_
    refine last 47 0 [(5, .int .i64 1), (6, .int .i64 0)] [(Api.Instr.c i1)] ?_ fun zz hs => ?_
    · refine st ?_
      simp
    refine blk_n ?_
    refine seq_le ?_ hs
    refine awp_seq ?_
    obtain ⟨v49, q50, h⟩ := bs h
    refine cut 47 0 [(5, .int .i64 1), (6, .int .i64 0), (44, .bool (!v49))] [(Api.Instr.c i1)] ?_ ?_
    · refine st ?_
      simp
      have r54 := ref46_in_ok 1 0 1000 v49 q50
      try simp [] at r54
      refine callPure r54 (by simp) rfl ?_
      simp
    rcases sp h with ⟨g51, h⟩ | ⟨g51, h⟩
    · have g52 := notT g51
      refine condT rfl g51 ?_
      refine cut 47 0 [(2, .int .i64 0), (3, .int .i64 0), (4, .int .i64 2)] [(Api.Instr.c i1)] ?_ ?_
      · refine st ?_
        simp
      refine awp_ret ?_
      refine ret_seq ?_
      obtain rfl := oi h
      simp
    have g53 := notF g51
    refine condF rfl g51 ?_
    refine awp_skip ?_
    refine seq_eq ?_
    refine cut 47 0 [(2, .int .i64 1), (3, .int .i64 0), (4, .int .i64 0)] [(Api.Instr.c i1)] ?_ ?_
    · refine st ?_
      simp
    refine awp_ret ?_
    obtain rfl := oi h
    simp
  have c55 := eqF g47
  refine condF rfl g47 ?_
  refine cut 47 0 [(1, .mptr 0 0), (5, .int .i64 0), (6, .int .i64 1), (8, .int .i64 i1.Op), (15, .bool (eqI i1.Op 9))] [(Api.Instr.c i1)] ?_ ?_
  · refine st ?_
    simp
  rcases sp h with ⟨g56, h⟩ | ⟨g56, h⟩
  · have c57 := eqT g56
    refine condT rfl g56 ?_
    refine awp_skip ?_
    refine seq_eq ?_
    refine condT rfl (by simp [g56]) ?_
    refine last 47 0 [(5, .int .i64 1), (6, .int .i64 0)] [(Api.Instr.c i1)] ?_ fun zz hs => ?_
    · refine st ?_
      simp
    refine blk_n ?_
    refine seq_le ?_ hs
    refine awp_seq ?_
    obtain ⟨v58, q59, h⟩ := bs h
    refine cut 47 0 [(5, .int .i64 1), (6, .int .i64 0), (44, .bool (!v58))] [(Api.Instr.c i1)] ?_ ?_
    · refine st ?_
      simp
      have r63 := ref46_in_ok 1 0 1000 v58 q59
      try simp [] at r63
      refine callPure r63 (by simp) rfl ?_
      simp
    rcases sp h with ⟨g60, h⟩ | ⟨g60, h⟩
    · have g61 := notT g60
      refine condT rfl g60 ?_
      refine cut 47 0 [(2, .int .i64 0), (3, .int .i64 0), (4, .int .i64 2)] [(Api.Instr.c i1)] ?_ ?_
      · refine st ?_
        simp
      refine awp_ret ?_
      refine ret_seq ?_
      obtain rfl := oi h
      simp
    have g62 := notF g60
    refine condF rfl g60 ?_
    refine awp_skip ?_
    refine seq_eq ?_
    refine cut 47 0 [(2, .int .i64 1), (3, .int .i64 0), (4, .int .i64 0)] [(Api.Instr.c i1)] ?_ ?_
    · refine st ?_
      simp
    refine awp_ret ?_
    obtain rfl := oi h
    simp
  have c64 := eqF g56
  refine condF rfl g56 ?_
  refine last 47 0 [(1, .mptr 0 0), (5, .int .i64 0), (6, .int .i64 1), (8, .int .i64 i1.Op), (15, .bool (eqI i1.Op 13))] [(Api.Instr.c i1)] ?_ fun zz hs => ?_
  · refine st ?_
    simp
  refine seq_le ?_ hs
  rcases sp h with ⟨g65, h⟩ | ⟨g65, h⟩
  · have c66 := eqT g65
    refine condT rfl g65 ?_
    refine last 47 0 [(5, .int .i64 1), (6, .int .i64 0)] [(Api.Instr.c i1)] ?_ fun zz hs => ?_
    · refine st ?_
      simp
    refine blk_n ?_
    refine seq_le ?_ hs
    refine awp_seq ?_
    obtain ⟨v67, q68, h⟩ := bs h
    refine cut 47 0 [(5, .int .i64 1), (6, .int .i64 0), (44, .bool (!v67))] [(Api.Instr.c i1)] ?_ ?_
    · refine st ?_
      simp
      have r72 := ref46_in_ok 1 0 1000 v67 q68
      try simp [] at r72
      refine callPure r72 (by simp) rfl ?_
      simp
    rcases sp h with ⟨g69, h⟩ | ⟨g69, h⟩
    · have g70 := notT g69
      refine condT rfl g69 ?_
      refine cut 47 0 [(2, .int .i64 0), (3, .int .i64 0), (4, .int .i64 2)] [(Api.Instr.c i1)] ?_ ?_
      · refine st ?_
        simp
      refine awp_ret ?_
      refine ret_seq ?_
      obtain rfl := oi h
      simp
    have g71 := notF g69
    refine condF rfl g69 ?_
    refine awp_skip ?_
    refine seq_eq ?_
    refine cut 47 0 [(2, .int .i64 1), (3, .int .i64 0), (4, .int .i64 0)] [(Api.Instr.c i1)] ?_ ?_
    · refine st ?_
      simp
    refine awp_ret ?_
    obtain rfl := oi h
    simp
  have c73 := eqF g65
  refine condF rfl g65 ?_
  refine cut 47 0 [(1, .mptr 0 0), (5, .int .i64 0), (6, .int .i64 1), (8, .int .i64 i1.Op), (19, .bool (eqI i1.Op 7))] [(Api.Instr.c i1)] ?_ ?_
  · refine st ?_
    simp
  rcases sp h with ⟨g74, h⟩ | ⟨g74, h⟩
  · have c75 := eqT g74
    refine condT rfl g74 ?_
    refine last 47 0 [(5, .int .i64 i1.B), (6, .int .i64 1)] [(Api.Instr.c i1)] ?_ fun zz hs => ?_
    · refine st ?_
      simp
    refine blk_n ?_
    refine seq_le ?_ hs
    refine awp_seq ?_
    obtain ⟨v76, q77, h⟩ := bs h
    refine cut 47 0 [(5, .int .i64 i1.B), (6, .int .i64 1), (44, .bool (!v76))] [(Api.Instr.c i1)] ?_ ?_
    · refine st ?_
      simp
      have r81 := ref46_in_ok i1.B 0 1000 v76 q77
      try simp [] at r81
      refine callPure r81 (by simp) rfl ?_
      simp
    rcases sp h with ⟨g78, h⟩ | ⟨g78, h⟩
    · have g79 := notT g78
      refine condT rfl g78 ?_
      refine cut 47 0 [(2, .int .i64 0), (3, .int .i64 0), (4, .int .i64 2)] [(Api.Instr.c i1)] ?_ ?_
      · refine st ?_
        simp
      refine awp_ret ?_
      refine ret_seq ?_
      obtain rfl := oi h
      simp
    have g80 := notF g78
    refine condF rfl g78 ?_
    refine awp_skip ?_
    refine seq_eq ?_
    refine cut 47 0 [(2, .int .i64 i1.B), (3, .int .i64 1), (4, .int .i64 0)] [(Api.Instr.c i1)] ?_ ?_
    · refine st ?_
      simp
    refine awp_ret ?_
    obtain rfl := oi h
    simp
  have c82 := eqF g74
  refine condF rfl g74 ?_
  refine cut 47 0 [(1, .mptr 0 0), (5, .int .i64 0), (6, .int .i64 1), (8, .int .i64 i1.Op), (23, .bool (eqI i1.Op 8))] [(Api.Instr.c i1)] ?_ ?_
  · refine st ?_
    simp
  rcases sp h with ⟨g83, h⟩ | ⟨g83, h⟩
  · have c84 := eqT g83
    refine condT rfl g83 ?_
    refine last 47 0 [(5, .int .i64 2), (6, .int .i64 1)] [(Api.Instr.c i1)] ?_ fun zz hs => ?_
    · refine st ?_
      simp
    refine blk_n ?_
    refine seq_le ?_ hs
    refine awp_seq ?_
    obtain ⟨v85, q86, h⟩ := bs h
    refine cut 47 0 [(5, .int .i64 2), (6, .int .i64 1), (44, .bool (!v85))] [(Api.Instr.c i1)] ?_ ?_
    · refine st ?_
      simp
      have r90 := ref46_in_ok 2 0 1000 v85 q86
      try simp [] at r90
      refine callPure r90 (by simp) rfl ?_
      simp
    rcases sp h with ⟨g87, h⟩ | ⟨g87, h⟩
    · have g88 := notT g87
      refine condT rfl g87 ?_
      refine cut 47 0 [(2, .int .i64 0), (3, .int .i64 0), (4, .int .i64 2)] [(Api.Instr.c i1)] ?_ ?_
      · refine st ?_
        simp
      refine awp_ret ?_
      refine ret_seq ?_
      obtain rfl := oi h
      simp
    have g89 := notF g87
    refine condF rfl g87 ?_
    refine awp_skip ?_
    refine seq_eq ?_
    refine cut 47 0 [(2, .int .i64 2), (3, .int .i64 1), (4, .int .i64 0)] [(Api.Instr.c i1)] ?_ ?_
    · refine st ?_
      simp
    refine awp_ret ?_
    obtain rfl := oi h
    simp
  have c91 := eqF g83
  refine condF rfl g83 ?_
  refine cut 47 0 [(1, .mptr 0 0), (5, .int .i64 0), (6, .int .i64 1), (8, .int .i64 i1.Op), (25, .bool (eqI i1.Op 10))] [(Api.Instr.c i1)] ?_ ?_
  · refine st ?_
    simp
  rcases sp h with ⟨g92, h⟩ | ⟨g92, h⟩
  · have c93 := eqT g92
    refine condT rfl g92 ?_
    refine last 47 0 [(5, .int .i64 i1.A), (6, .int .i64 1)] [(Api.Instr.c i1)] ?_ fun zz hs => ?_
    · refine st ?_
      simp
    refine blk_n ?_
    refine seq_le ?_ hs
    refine awp_seq ?_
    obtain ⟨v94, q95, h⟩ := bs h
    refine cut 47 0 [(5, .int .i64 i1.A), (6, .int .i64 1), (44, .bool (!v94))] [(Api.Instr.c i1)] ?_ ?_
    · refine st ?_
      simp
      have r99 := ref46_in_ok i1.A 0 1000 v94 q95
      try simp [] at r99
      refine callPure r99 (by simp) rfl ?_
      simp
    rcases sp h with ⟨g96, h⟩ | ⟨g96, h⟩
    · have g97 := notT g96
      refine condT rfl g96 ?_
      refine cut 47 0 [(2, .int .i64 0), (3, .int .i64 0), (4, .int .i64 2)] [(Api.Instr.c i1)] ?_ ?_
      · refine st ?_
        simp
      refine awp_ret ?_
      refine ret_seq ?_
      obtain rfl := oi h
      simp
    have g98 := notF g96
    refine condF rfl g96 ?_
    refine awp_skip ?_
    refine seq_eq ?_
    refine cut 47 0 [(2, .int .i64 i1.A), (3, .int .i64 1), (4, .int .i64 0)] [(Api.Instr.c i1)] ?_ ?_
    · refine st ?_
      simp
    refine awp_ret ?_
    obtain rfl := oi h
    simp
  have c100 := eqF g92
  refine condF rfl g92 ?_
  refine awp_seq ?_
  refine cut 47 0 [(1, .mptr 0 0), (5, .int .i64 0), (6, .int .i64 1), (8, .int .i64 i1.Op), (29, .bool (eqI i1.Op 11))] [(Api.Instr.c i1)] ?_ ?_
  · refine st ?_
    simp
  rcases sp h with ⟨g101, h⟩ | ⟨g101, h⟩
  · have c102 := eqT g101
    refine condT rfl g101 ?_
    refine awp_skip ?_
    refine seq_eq ?_
    refine condT rfl (by simp [g101]) ?_
    refine last 47 0 [(5, .int .i64 1), (6, .int .i64 1)] [(Api.Instr.c i1)] ?_ fun zz hs => ?_
    · refine st ?_
      simp
    refine blk_n ?_
    refine seq_le ?_ hs
    refine awp_seq ?_
    obtain ⟨v103, q104, h⟩ := bs h
    refine cut 47 0 [(5, .int .i64 1), (6, .int .i64 1), (44, .bool (!v103))] [(Api.Instr.c i1)] ?_ ?_
    · refine st ?_
      simp
      have r108 := ref46_in_ok 1 0 1000 v103 q104
      try simp [] at r108
      refine callPure r108 (by simp) rfl ?_
      simp
    rcases sp h with ⟨g105, h⟩ | ⟨g105, h⟩
    · have g106 := notT g105
      refine condT rfl g105 ?_
      refine cut 47 0 [(2, .int .i64 0), (3, .int .i64 0), (4, .int .i64 2)] [(Api.Instr.c i1)] ?_ ?_
      · refine st ?_
        simp
      refine awp_ret ?_
      refine ret_seq ?_
      obtain rfl := oi h
      simp
    have g107 := notF g105
    refine condF rfl g105 ?_
    refine awp_skip ?_
    refine seq_eq ?_
    refine cut 47 0 [(2, .int .i64 1), (3, .int .i64 1), (4, .int .i64 0)] [(Api.Instr.c i1)] ?_ ?_
    · refine st ?_
      simp
    refine awp_ret ?_
    obtain rfl := oi h
    simp
  have c109 := eqF g101
  refine condF rfl g101 ?_
  refine last 47 0 [(1, .mptr 0 0), (5, .int .i64 0), (6, .int .i64 1), (8, .int .i64 i1.Op), (29, .bool (eqI i1.Op 12))] [(Api.Instr.c i1)] ?_ fun zz hs => ?_
  · refine st ?_
    simp
  refine seq_le ?_ hs
  rcases sp h with ⟨g110, h⟩ | ⟨g110, h⟩
  · have c111 := eqT g110
    refine condT rfl g110 ?_
    refine last 47 0 [(5, .int .i64 1), (6, .int .i64 1)] [(Api.Instr.c i1)] ?_ fun zz hs => ?_
    · refine st ?_
      simp
    refine blk_n ?_
    refine seq_le ?_ hs
    refine awp_seq ?_
    obtain ⟨v112, q113, h⟩ := bs h
    refine cut 47 0 [(5, .int .i64 1), (6, .int .i64 1), (44, .bool (!v112))] [(Api.Instr.c i1)] ?_ ?_
    · refine st ?_
      simp
      have r117 := ref46_in_ok 1 0 1000 v112 q113
      try simp [] at r117
      refine callPure r117 (by simp) rfl ?_
      simp
    rcases sp h with ⟨g114, h⟩ | ⟨g114, h⟩
    · have g115 := notT g114
      refine condT rfl g114 ?_
      refine cut 47 0 [(2, .int .i64 0), (3, .int .i64 0), (4, .int .i64 2)] [(Api.Instr.c i1)] ?_ ?_
      · refine st ?_
        simp
      refine awp_ret ?_
      refine ret_seq ?_
      obtain rfl := oi h
      simp
    have g116 := notF g114
    refine condF rfl g114 ?_
    refine awp_skip ?_
    refine seq_eq ?_
    refine cut 47 0 [(2, .int .i64 1), (3, .int .i64 1), (4, .int .i64 0)] [(Api.Instr.c i1)] ?_ ?_
    · refine st ?_
      simp
    refine awp_ret ?_
    obtain rfl := oi h
    simp
  have c118 := eqF g110
  refine condF rfl g110 ?_
  refine awp_seq ?_
  refine cut 47 0 [(1, .mptr 0 0), (5, .int .i64 0), (6, .int .i64 1), (8, .int .i64 i1.Op), (32, .bool (eqI i1.Op 14))] [(Api.Instr.c i1)] ?_ ?_
  · refine st ?_
    simp
  rcases sp h with ⟨g119, h⟩ | ⟨g119, h⟩
  · have c120 := eqT g119
    refine condT rfl g119 ?_
    refine awp_skip ?_
    refine seq_eq ?_
    refine condT rfl (by simp [g119]) ?_
    refine last 47 0 [(5, .int .i64 0), (6, .int .i64 0)] [(Api.Instr.c i1)] ?_ fun zz hs => ?_
    · refine st ?_
      simp
    refine blk_n ?_
    refine seq_le ?_ hs
    refine awp_seq ?_
    obtain ⟨v121, q122, h⟩ := bs h
    refine cut 47 0 [(5, .int .i64 0), (6, .int .i64 0), (44, .bool (!v121))] [(Api.Instr.c i1)] ?_ ?_
    · refine st ?_
      simp
      have r126 := ref46_in_ok 0 0 1000 v121 q122
      try simp [] at r126
      refine callPure r126 (by simp) rfl ?_
      simp
    rcases sp h with ⟨g123, h⟩ | ⟨g123, h⟩
    · have g124 := notT g123
      refine condT rfl g123 ?_
      refine cut 47 0 [(2, .int .i64 0), (3, .int .i64 0), (4, .int .i64 2)] [(Api.Instr.c i1)] ?_ ?_
      · refine st ?_
        simp
      refine awp_ret ?_
      refine ret_seq ?_
      obtain rfl := oi h
      simp
    have g125 := notF g123
    refine condF rfl g123 ?_
    refine awp_skip ?_
    refine seq_eq ?_
    refine cut 47 0 [(2, .int .i64 0), (3, .int .i64 0), (4, .int .i64 0)] [(Api.Instr.c i1)] ?_ ?_
    · refine st ?_
      simp
    refine awp_ret ?_
    obtain rfl := oi h
    simp
  have c127 := eqF g119
  refine condF rfl g119 ?_
  refine last 47 0 [(1, .mptr 0 0), (5, .int .i64 0), (6, .int .i64 1), (8, .int .i64 i1.Op), (32, .bool (eqI i1.Op 16))] [(Api.Instr.c i1)] ?_ fun zz hs => ?_
  · refine st ?_
    simp
  refine seq_le ?_ hs
  rcases sp h with ⟨g128, h⟩ | ⟨g128, h⟩
  · have c129 := eqT g128
    refine condT rfl g128 ?_
    refine last 47 0 [(5, .int .i64 0), (6, .int .i64 0)] [(Api.Instr.c i1)] ?_ fun zz hs => ?_
    · refine st ?_
      simp
    refine blk_n ?_
    refine seq_le ?_ hs
    refine awp_seq ?_
    obtain ⟨v130, q131, h⟩ := bs h
    refine cut 47 0 [(5, .int .i64 0), (6, .int .i64 0), (44, .bool (!v130))] [(Api.Instr.c i1)] ?_ ?_
    · refine st ?_
      simp
      have r135 := ref46_in_ok 0 0 1000 v130 q131
      try simp [] at r135
      refine callPure r135 (by simp) rfl ?_
      simp
    rcases sp h with ⟨g132, h⟩ | ⟨g132, h⟩
    · have g133 := notT g132
      refine condT rfl g132 ?_
      refine cut 47 0 [(2, .int .i64 0), (3, .int .i64 0), (4, .int .i64 2)] [(Api.Instr.c i1)] ?_ ?_
      · refine st ?_
        simp
      refine awp_ret ?_
      refine ret_seq ?_
      obtain rfl := oi h
      simp
    have g134 := notF g132
    refine condF rfl g132 ?_
    refine awp_skip ?_
    refine seq_eq ?_
    refine cut 47 0 [(2, .int .i64 0), (3, .int .i64 0), (4, .int .i64 0)] [(Api.Instr.c i1)] ?_ ?_
    · refine st ?_
      simp
    refine awp_ret ?_
    obtain rfl := oi h
    simp
  have c136 := eqF g128
  refine condF rfl g128 ?_
  refine cut 47 0 [(1, .mptr 0 0), (6, .int .i64 1), (35, .bool (eqI i1.Op 15))] [(Api.Instr.c i1)] ?_ ?_
  · refine st ?_
    simp
  rcases sp h with ⟨g137, h⟩ | ⟨g137, h⟩
  · have c138 := eqT g137
    refine condT rfl g137 ?_
    obtain ⟨v139, q140, h⟩ := bs h
    refine cut 47 0 [(5, .int .i64 v139), (6, .int .i64 1)] [(Api.Instr.c i1)] ?_ ?_
    · refine st ?_
      simp
      have r150 := ref46_Arity_ok i1.A v139 q140
      try simp [] at r150
      refine callPure r150 (by simp) rfl ?_
      simp
    refine cut 47 0 [(5, .int .i64 v139), (6, .int .i64 1), (41, .bool (eqI v139 0))] [(Api.Instr.c i1)] ?_ ?_
    · refine st ?_
      simp
    rcases sp h with ⟨g141, h⟩ | ⟨g141, h⟩
    · have c142 := eqT g141
      refine condT rfl g141 ?_
      refine cut 47 0 [(2, .int .i64 0), (3, .int .i64 0), (4, .int .i64 2)] [(Api.Instr.c i1)] ?_ ?_
      · refine st ?_
        simp
      refine awp_ret ?_
      refine ret_blk ?_
      refine ret_seq ?_
      obtain rfl := oi h
      simp
    have c143 := eqF g141
    refine condF rfl g141 ?_
    refine awp_skip ?_
    refine blk_n ?_
    refine seq_eq ?_
    refine awp_seq ?_
    obtain ⟨v144, q145, h⟩ := bs h
    refine cut 47 0 [(5, .int .i64 v139), (6, .int .i64 1), (44, .bool (!v144))] [(Api.Instr.c i1)] ?_ ?_
    · refine st ?_
      simp
      have r149 := ref46_in_ok v139 0 1000 v144 q145
      try simp [] at r149
      refine callPure r149 (by simp) rfl ?_
      simp
    rcases sp h with ⟨g146, h⟩ | ⟨g146, h⟩
    · have g147 := notT g146
      refine condT rfl g146 ?_
      refine cut 47 0 [(2, .int .i64 0), (3, .int .i64 0), (4, .int .i64 2)] [(Api.Instr.c i1)] ?_ ?_
      · refine st ?_
        simp
      refine awp_ret ?_
      refine ret_seq ?_
      obtain rfl := oi h
      simp
    have g148 := notF g146
    refine condF rfl g146 ?_
    refine awp_skip ?_
    refine seq_eq ?_
    refine cut 47 0 [(2, .int .i64 v139), (3, .int .i64 1), (4, .int .i64 0)] [(Api.Instr.c i1)] ?_ ?_
    · refine st ?_
      simp
    refine awp_ret ?_
    obtain rfl := oi h
    simp
  have c151 := eqF g137
  refine condF rfl g137 ?_
  refine cut 47 0 [(2, .int .i64 0), (3, .int .i64 0), (4, .int .i64 2)] [(Api.Instr.c i1)] ?_ ?_
  · refine st ?_
    simp
  refine awp_ret ?_
  refine ret_blk ?_
  refine ret_seq ?_
  obtain rfl := oi h
  simp
end Go.Proofs.Ythbjlmoaceaeeaa
set_option linter.unusedVariables false
set_option linter.unusedSimpArgs false
set_option maxRecDepth 100000
set_option maxHeartbeats 1000000
namespace Go.Proofs.Ythbjlmoaceaeeaa
open Go Go.Abs
theorem ref48_passes_ok (f1 : Api.Fun) (at2 : Int) (depth3 : Int) (set4 : (List Bool)) (r : Int × Bool) (h : M.ref48_passes f1 at2 depth3 set4 = some r) : Pure Try.prog 87 [.agg [.int .i64 f1.Captures, .int .i64 f1.Locals, .int .i64 f1.Depth, .sl (f1.Code.map Api.Instr.c)], .int .i64 at2, .int .i64 depth3, .sl (set4.map cB)] (.tup [.int .i64 r.1, .bool r.2]) := by
  rw [M.ref48_passes] at h
  refine pure_of_body Try.func87 (by rfl) (by rfl) (by simp) (by simp) (by simp) ?_
  refine cut 66 0 [(1, .int .i64 at2), (2, .int .i64 depth3), (3, .sl (set4.map cB)), (4, .mptr 0 0)] [(Api.Fun.c f1)] ?_ ?_
  · refine st ?_
    simp
  obtain ⟨x5, q6, h⟩ := bs h
  obtain ⟨q7, q8⟩ := idx_ok q6
  refine cut 66 0 [(2, .int .i64 depth3), (3, .sl (set4.map cB)), (4, .mptr 0 0), (10, .mptr 1 0)] [(Api.Fun.c f1), (Api.Instr.c x5)] ?_ ?_
  · refine st ?_
    simp [q7, q8]
  obtain ⟨v9, q10, h⟩ := bs h
  refine cut 66 0 [(2, .int .i64 depth3), (3, .sl (set4.map cB)), (4, .mptr 0 0), (10, .mptr 1 0), (11, .int .i64 v9.1), (12, .int .i64 v9.2.1), (13, .int .i64 v9.2.2)] [(Api.Fun.c f1), (Api.Instr.c x5)] ?_ ?_
  · refine st ?_
    simp
    have r71 := ref46_Effect_ok x5 v9 q10
    try simp [] at r71
    refine callPure r71 (by simp) rfl ?_
    simp
  refine awp_seq ?_
  obtain ⟨b47, q48, h⟩ := bs h
  refine cut 66 0 [(2, .int .i64 depth3), (3, .sl (set4.map cB)), (10, .mptr 1 0), (11, .int .i64 v9.1), (12, .int .i64 v9.2.1), (50, .bool b47)] [(Api.Fun.c f1), (Api.Instr.c x5)] ?_ ?_
  · rcases sp q48 with ⟨g11, q48⟩ | ⟨g11, q48⟩
    · have g12 := notT g11
      have c13 := eqF g12
      obtain rfl := oi q48
      refine st ?_
      simp [g11]
    have g14 := notF g11
    have c15 := eqT g14
    rcases sp q48 with ⟨g16, q48⟩ | ⟨g16, q48⟩
    · have c17 := ltT g16
      obtain rfl := oi q48
      refine st ?_
      simp [g11, g16]
    have c18 := ltF g16
    rcases sp q48 with ⟨g19, q48⟩ | ⟨g19, q48⟩
    · have c20 := eqT g19
      rcases sp q48 with ⟨g21, q48⟩ | ⟨g21, q48⟩
      · have g22 := notT g21
        have c23 := eqF g22
        obtain rfl := oi q48
        refine st ?_
        simp [g11, g16, g19, g21]
      have g24 := notF g21
      have c25 := eqT g24
      obtain ⟨n26, q27, q48⟩ := bs q48
      obtain ⟨q28, q29⟩ := chk_ok q27
      try simp at q28
      try simp at q29
      have c30 := q28; simp only [Rng, inR] at c30
      obtain ⟨n31, q32, q48⟩ := bs q48
      obtain ⟨q33, q34⟩ := chk_ok q32
      try simp at q33
      try simp at q34
      have c35 := q33; simp only [Rng, inR] at c35
      obtain rfl := oi q48
      refine st ?_
      simp [g11, g16, g19, g21, q28, q29, q33, q34]
    have c36 := eqF g19
    obtain ⟨n37, q38, q48⟩ := bs q48
    obtain ⟨q39, q40⟩ := chk_ok q38
    try simp at q39
    try simp at q40
    have c41 := q39; simp only [Rng, inR] at c41
    obtain ⟨n42, q43, q48⟩ := bs q48
    obtain ⟨q44, q45⟩ := chk_ok q43
    try simp at q44
    try simp at q45
    have c46 := q44; simp only [Rng, inR] at c46
    obtain rfl := oi q48
    refine st ?_
    simp [g11, g16, g19, q39, q40, q44, q45]
  rcases sp h with ⟨g49, h⟩ | ⟨g49, h⟩
  · refine condT rfl g49 ?_
    refine cut 66 0 [(8, .int .i64 0), (9, .bool false)] [(Api.Fun.c f1), (Api.Instr.c x5)] ?_ ?_
    · refine st ?_
      simp
    refine awp_ret ?_
    refine ret_seq ?_
    obtain rfl := oi h
    simp
  refine condF rfl g49 ?_
  refine awp_skip ?_
  refine seq_eq ?_
  obtain ⟨v69, q70, h⟩ := bs h
  refine cut 66 0 [(8, .int .i64 v69.1), (9, .bool v69.2)] [(Api.Fun.c f1), (Api.Instr.c x5)] ?_ ?_
  · obtain ⟨n50, q51, q70⟩ := bs q70
    obtain ⟨q52, q53⟩ := chk_ok q51
    try simp at q52
    try simp at q53
    have c54 := q52; simp only [Rng, inR] at c54
    obtain ⟨n55, q56, q70⟩ := bs q70
    obtain ⟨q57, q58⟩ := chk_ok q56
    try simp at q57
    try simp at q58
    have c59 := q57; simp only [Rng, inR] at c59
    rcases sp q70 with ⟨g60, q70⟩ | ⟨g60, q70⟩
    · have g61 := notT g60
      have c62 := eqF g61
      obtain rfl := oi q70
      refine awp_region_draw [999] mixed (n := 66) rfl (by decide) ?_
      simp [q52, q53, q57, q58, g60]
    have g63 := notF g60
    have c64 := eqT g63
    obtain ⟨x65, q66, q70⟩ := bs q70
    obtain ⟨q67, q68⟩ := idx_ok q66
    obtain rfl := oi q70
    refine awp_region_draw [999] mixed (n := 66) rfl (by decide) ?_
    simp [q52, q53, q57, q58, g60, q67, q68]
  refine awp_ret ?_
  obtain rfl := oi h
  simp
end Go.Proofs.Ythbjlmoaceaeeaa
set_option linter.unusedVariables false
set_option linter.unusedSimpArgs false
set_option maxRecDepth 100000
set_option maxHeartbeats 1000000
namespace Go.Proofs.Ythbjlmoaceaeeaa
open Go Go.Abs
theorem ref46_Targets_ok (fuel : Nat) (f1 : Api.Fun) (at2 : Int) (r : (List Int) × Int) (h : M.ref46_Targets fuel f1 at2 = some r) : Pure Try.prog 88 [.agg [.int .i64 f1.Captures, .int .i64 f1.Locals, .int .i64 f1.Depth, .sl (f1.Code.map Api.Instr.c)], .int .i64 at2] (.tup [.sl (r.1.map (cI .i64)), .int .i64 r.2]) := by
  rw [M.ref46_Targets] at h
  refine pure_of_body Try.func88 (by rfl) (by rfl) (by simp) (by simp) (by simp) ?_
  refine cut 84 0 [(1, .int .i64 at2), (2, .mptr 0 0)] [(Api.Fun.c f1)] ?_ ?_
  · refine st ?_
    simp
  refine awp_seq ?_
  obtain ⟨b19, q20, h⟩ := bs h
  refine cut 84 0 [(1, .int .i64 at2), (2, .mptr 0 0), (26, .bool b19)] [(Api.Fun.c f1)] ?_ ?_
  · obtain ⟨n3, q4, q20⟩ := bs q20
    obtain ⟨q5, q6⟩ := chk_ok q4
    try simp at q5
    try simp at q6
    have c7 := q5; simp only [Rng, inR] at c7
    obtain ⟨v8, q9, q20⟩ := bs q20
    rcases sp q20 with ⟨g10, q20⟩ | ⟨g10, q20⟩
    · have g11 := notT g10
      obtain rfl := oi q20
      refine st ?_
      simp [q5, q6, g10]
      have r180 := ref46_in_ok at2 0 n3 v8 q9
      try simp [q5, q6, g10] at r180
      refine callPure r180 (by simp) rfl ?_
      simp [q5, q6, g10]
    have g12 := notF g10
    obtain ⟨x13, q14, q20⟩ := bs q20
    obtain ⟨q15, q16⟩ := idx_ok q14
    obtain ⟨v17, q18, q20⟩ := bs q20
    obtain rfl := oi q20
    refine st ?_
    simp [q5, q6, g10, q15, q16]
    have r181 := ref46_in_ok at2 0 n3 v8 q9
    try simp [q5, q6, g10, q15, q16] at r181
    refine callPure r181 (by simp) rfl ?_
    simp [q5, q6, g10, q15, q16]
    have r182 := ref46_Word_ok x13.Op v17 q18
    try simp [q5, q6, g10, q15, q16] at r182
    refine callPure r182 (by simp) rfl ?_
    simp [q5, q6, g10, q15, q16]
  rcases sp h with ⟨g21, h⟩ | ⟨g21, h⟩
  · refine condT rfl g21 ?_
    refine cut 84 0 [(4, .osl ⟨1, 3⟩ (([] : List Int).map (cI .i64))), (5, .int .i64 2)] [(Api.Fun.c f1)] ?_ ?_
    · refine st ?_
      simp
    refine awp_ret ?_
    refine ret_seq ?_
    obtain rfl := oi h
    simp
  refine condF rfl g21 ?_
  refine awp_skip ?_
  refine seq_eq ?_
  obtain ⟨x22, q23, h⟩ := bs h
  obtain ⟨q24, q25⟩ := idx_ok q23
  refine cut 84 0 [(1, .int .i64 at2), (2, .mptr 0 0), (6, .mptr 1 0)] [(Api.Fun.c f1), (Api.Instr.c x22)] ?_ ?_
  · refine st ?_
    simp [q24, q25]
  refine cut 84 0 [(1, .int .i64 at2), (2, .mptr 0 0), (6, .mptr 1 0), (7, .osl ⟨1, 3⟩ (([] : List Int).map (cI .i64)))] [(Api.Fun.c f1), (Api.Instr.c x22)] ?_ ?_
  · refine st ?_
    simp
  refine awp_seq ?_
  refine cut 84 0 [(1, .int .i64 at2), (2, .mptr 0 0), (6, .mptr 1 0), (7, .osl ⟨1, 3⟩ (([] : List Int).map (cI .i64))), (33, .int .i64 x22.Op)] [(Api.Fun.c f1), (Api.Instr.c x22)] ?_ ?_
  · refine st ?_
    simp
  refine awp_block ?_
  refine awp_seq ?_
  refine cut 84 0 [(1, .int .i64 at2), (2, .mptr 0 0), (6, .mptr 1 0), (7, .osl ⟨1, 3⟩ (([] : List Int).map (cI .i64))), (33, .int .i64 x22.Op), (39, .bool (eqI x22.Op 9))] [(Api.Fun.c f1), (Api.Instr.c x22)] ?_ ?_
  · refine st ?_
    simp
  rcases sp h with ⟨g26, h⟩ | ⟨g26, h⟩
  · have c27 := eqT g26
    refine condT rfl g26 ?_
    refine awp_skip ?_
    refine seq_eq ?_
    refine condT rfl (by simp [g26]) ?_
    refine awp_skip ?_
    refine blk_n ?_
    refine seq_eq ?_
    refine awp_seq ?_
    refine cut 84 0 [(2, .mptr 0 0), (7, .osl ⟨1, 3⟩ (([] : List Int).map (cI .i64))), (9, .int .i64 0)] [(Api.Fun.c f1), (Api.Instr.c x22)] ?_ ?_
    · refine st ?_
      simp
    refine awp_block ?_
    obtain ⟨o28, l29, h⟩ := bs h
    refine awp_inv (fun p : Nat => mkS 84 0 [(2, .mptr 0 0), (7, .osl ⟨1, 3⟩ (([] : List Int).map (cI .i64))), (9, .int .i64 0)] [(Api.Fun.c f1), (Api.Instr.c x22)]) (fun p => M.ref46_Targets_l1 p = some o28) (fun p => p) fuel l29 (le_mkS (by simp)) ?_
    rintro k30 l29
    try dsimp only at l29 ⊢
    cases k30 with
    | zero =>
      rw [M.ref46_Targets_l1] at l29; cases l29
    | succ k31 =>
      rw [M.ref46_Targets_l1] at l29
      refine awp_seq ?_
      refine cut 84 0 [(2, .mptr 0 0), (7, .osl ⟨1, 3⟩ (([] : List Int).map (cI .i64))), (9, .int .i64 0), (70, .bool (ltI 0 (([] : List Int).length : Int)))] [(Api.Fun.c f1), (Api.Instr.c x22)] ?_ ?_
      · refine st ?_
        simp
      rcases sp l29 with ⟨g32, l29⟩ | ⟨g32, l29⟩
      · have c33 := ltT g32
        refine condT rfl g32 ?_
        refine factL 7 rfl fun f34 => ?_
        rw [List.length_map] at f34
        refine awp_skip ?_
        refine seq_eq ?_
        refine awp_seq ?_
        refine awp_block ?_
        cases l29
      have c35 := ltF g32
      refine condF rfl g32 ?_
      refine factL 7 rfl fun f36 => ?_
      rw [List.length_map] at f36
      refine awp_exit ?_
      refine exit_seq ?_
      have q37 := Option.some.inj l29
      refine exit_seq ?_
      refine exit_blk ?_
      refine seq_le (t := mkS 84 0 [(7, .osl ⟨1, 3⟩ (([] : List Int).map (cI .i64)))] [(Api.Fun.c f1), (Api.Instr.c x22)]) ?_ (le_mkS (by simp []))
      refine cut 84 0 [(4, .osl ⟨1, 3⟩ (([] : List Int).map (cI .i64))), (5, .int .i64 0)] [(Api.Fun.c f1), (Api.Instr.c x22)] ?_ ?_
      · refine st ?_
        simp
      refine awp_ret ?_
      obtain rfl := oi h
      simp
  have c38 := eqF g26
  refine condF rfl g26 ?_
  refine last 84 0 [(1, .int .i64 at2), (2, .mptr 0 0), (6, .mptr 1 0), (7, .osl ⟨1, 3⟩ (([] : List Int).map (cI .i64))), (33, .int .i64 x22.Op), (39, .bool (eqI x22.Op 16))] [(Api.Fun.c f1), (Api.Instr.c x22)] ?_ fun zz hs => ?_
  · refine st ?_
    simp
  refine seq_le ?_ hs
  rcases sp h with ⟨g39, h⟩ | ⟨g39, h⟩
  · have c40 := eqT g39
    refine condT rfl g39 ?_
    refine awp_skip ?_
    refine blk_n ?_
    refine seq_eq ?_
    refine awp_seq ?_
    refine cut 84 0 [(2, .mptr 0 0), (7, .osl ⟨1, 3⟩ (([] : List Int).map (cI .i64))), (9, .int .i64 0)] [(Api.Fun.c f1), (Api.Instr.c x22)] ?_ ?_
    · refine st ?_
      simp
    refine awp_block ?_
    obtain ⟨o41, l42, h⟩ := bs h
    refine awp_inv (fun p : Nat => mkS 84 0 [(2, .mptr 0 0), (7, .osl ⟨1, 3⟩ (([] : List Int).map (cI .i64))), (9, .int .i64 0)] [(Api.Fun.c f1), (Api.Instr.c x22)]) (fun p => M.ref46_Targets_l2 p = some o41) (fun p => p) fuel l42 (le_mkS (by simp)) ?_
    rintro k43 l42
    try dsimp only at l42 ⊢
    cases k43 with
    | zero =>
      rw [M.ref46_Targets_l2] at l42; cases l42
    | succ k44 =>
      rw [M.ref46_Targets_l2] at l42
      refine awp_seq ?_
      refine cut 84 0 [(2, .mptr 0 0), (7, .osl ⟨1, 3⟩ (([] : List Int).map (cI .i64))), (9, .int .i64 0), (70, .bool (ltI 0 (([] : List Int).length : Int)))] [(Api.Fun.c f1), (Api.Instr.c x22)] ?_ ?_
      · refine st ?_
        simp
      rcases sp l42 with ⟨g45, l42⟩ | ⟨g45, l42⟩
      · have c46 := ltT g45
        refine condT rfl g45 ?_
        refine factL 7 rfl fun f47 => ?_
        rw [List.length_map] at f47
        refine awp_skip ?_
        refine seq_eq ?_
        refine awp_seq ?_
        refine awp_block ?_
        cases l42
      have c48 := ltF g45
      refine condF rfl g45 ?_
      refine factL 7 rfl fun f49 => ?_
      rw [List.length_map] at f49
      refine awp_exit ?_
      refine exit_seq ?_
      have q50 := Option.some.inj l42
      refine exit_seq ?_
      refine exit_blk ?_
      refine seq_le (t := mkS 84 0 [(7, .osl ⟨1, 3⟩ (([] : List Int).map (cI .i64)))] [(Api.Fun.c f1), (Api.Instr.c x22)]) ?_ (le_mkS (by simp []))
      refine cut 84 0 [(4, .osl ⟨1, 3⟩ (([] : List Int).map (cI .i64))), (5, .int .i64 0)] [(Api.Fun.c f1), (Api.Instr.c x22)] ?_ ?_
      · refine st ?_
        simp
      refine awp_ret ?_
      obtain rfl := oi h
      simp
  have c51 := eqF g39
  refine condF rfl g39 ?_
  refine cut 84 0 [(1, .int .i64 at2), (2, .mptr 0 0), (6, .mptr 1 0), (7, .osl ⟨1, 3⟩ (([] : List Int).map (cI .i64))), (33, .int .i64 x22.Op), (42, .bool (eqI x22.Op 14))] [(Api.Fun.c f1), (Api.Instr.c x22)] ?_ ?_
  · refine st ?_
    simp
  rcases sp h with ⟨g52, h⟩ | ⟨g52, h⟩
  · have c53 := eqT g52
    refine condT rfl g52 ?_
    obtain ⟨l54, q55, h⟩ := bs h
    obtain ⟨q56, q57⟩ := app_ok q55
    try simp at q56
    refine last 84 0 [(2, .mptr 0 0), (7, .osl ⟨1, 3⟩ (l54.map (cI .i64)))] [(Api.Fun.c f1), (Api.Instr.c x22)] ?_ fun zz hs => ?_
    · refine st ?_
      simp [q56, q57]
    refine blk_n ?_
    refine seq_le ?_ hs
    refine awp_seq ?_
    refine cut 84 0 [(2, .mptr 0 0), (7, .osl ⟨1, 3⟩ (l54.map (cI .i64))), (9, .int .i64 0)] [(Api.Fun.c f1), (Api.Instr.c x22)] ?_ ?_
    · refine st ?_
      simp
    refine awp_block ?_
    obtain ⟨o60, l61, h⟩ := bs h
    refine awp_inv (fun p : Nat × Nat => mkS 84 0 [(2, .mptr 0 0), (7, .osl ⟨1, 3⟩ (l54.map (cI .i64))), (9, .int .i64 ((p.2 : Nat) : Int))] [(Api.Fun.c f1), (Api.Instr.c x22)]) (fun p => M.ref46_Targets_l3 f1 l54 p.1 p.2 = some o60) (fun p => p.1) (fuel, 0) l61 (le_mkS (by simp)) ?_
    rintro ⟨k62, k58⟩ l61
    try dsimp only at l61 ⊢
    cases k62 with
    | zero =>
      rw [M.ref46_Targets_l3] at l61; cases l61
    | succ k63 =>
      rw [M.ref46_Targets_l3] at l61
      refine awp_seq ?_
      refine cut 84 0 [(2, .mptr 0 0), (7, .osl ⟨1, 3⟩ (l54.map (cI .i64))), (9, .int .i64 ((k58 : Nat) : Int)), (70, .bool (ltI ((k58 : Nat) : Int) (l54.length : Int)))] [(Api.Fun.c f1), (Api.Instr.c x22)] ?_ ?_
      · refine st ?_
        simp
      rcases sp l61 with ⟨g64, l61⟩ | ⟨g64, l61⟩
      · have c65 := ltT g64
        refine condT rfl g64 ?_
        refine factL 7 rfl fun f66 => ?_
        rw [List.length_map] at f66
        refine awp_skip ?_
        refine seq_eq ?_
        refine awp_seq ?_
        refine awp_block ?_
        obtain ⟨x67, q68, l61⟩ := bs l61
        obtain ⟨n69, q70, l61⟩ := bs l61
        obtain ⟨q71, q72⟩ := chk_ok q70
        try simp at q71
        try simp at q72
        have c73 := q71; simp only [Rng, inR] at c73
        obtain ⟨v74, q75, l61⟩ := bs l61
        refine cut 84 0 [(2, .mptr 0 0), (7, .osl ⟨1, 3⟩ (l54.map (cI .i64))), (9, .int .i64 ((k58 : Nat) : Int)), (82, .bool (!v74))] [(Api.Fun.c f1), (Api.Instr.c x22)] ?_ ?_
        · refine awp_region_draw [] mixed (n := 84) rfl (by decide) ?_
          simp [q68, q71, q72]
          have r80 := ref46_in_ok x67 0 n69 v74 q75
          try simp [q68, q71, q72] at r80
          refine callD r80 (by simp) rfl ?_
          simp [q68, q71, q72]
        rcases sp l61 with ⟨g76, l61⟩ | ⟨g76, l61⟩
        · have g77 := notT g76
          refine condT rfl g76 ?_
          refine cut 84 0 [(4, .osl ⟨1, 3⟩ (([] : List Int).map (cI .i64))), (5, .int .i64 24)] [(Api.Fun.c f1), (Api.Instr.c x22)] ?_ ?_
          · refine st ?_
            simp
          refine awp_ret ?_
          refine ret_blk ?_
          refine ret_seq ?_
          replace h := retL l61 h
          refine ret_seq ?_
          refine ret_blk ?_
          refine ret_seq ?_
          obtain rfl := oi h
          simp
        have g78 := notF g76
        refine condF rfl g76 ?_
        refine awp_skip ?_
        refine blk_n ?_
        refine seq_eq ?_
        have q79 : Rng .i64 (((k58 : Nat) : Int) + 1) := by simp only [Rng, inR]; omega
        try simp at q79
        refine last 84 0 [(2, .mptr 0 0), (7, .osl ⟨1, 3⟩ (l54.map (cI .i64))), (9, .int .i64 ((k58 + 1 : Nat) : Int))] [(Api.Fun.c f1), (Api.Instr.c x22)] ?_ fun zz hs => ?_
        · refine st ?_
          simp [q79]
        exact ⟨(k63, k58 + 1), hs, l61, by simp⟩
      have c81 := ltF g64
      refine condF rfl g64 ?_
      refine factL 7 rfl fun f82 => ?_
      rw [List.length_map] at f82
      refine awp_exit ?_
      refine exit_seq ?_
      rcases o60 with o60 | o59
      · cases l61
      have q83 := Sum.inr.inj (Option.some.inj l61)
      replace h := elimR h
      refine exit_seq ?_
      refine exit_blk ?_
      refine seq_le (t := mkS 84 0 [(7, .osl ⟨1, 3⟩ (l54.map (cI .i64)))] [(Api.Fun.c f1), (Api.Instr.c x22)]) ?_ (le_mkS (by simp []))
      refine cut 84 0 [(4, .osl ⟨1, 3⟩ (l54.map (cI .i64))), (5, .int .i64 0)] [(Api.Fun.c f1), (Api.Instr.c x22)] ?_ ?_
      · refine st ?_
        simp
      refine awp_ret ?_
      obtain rfl := oi h
      simp
  have c84 := eqF g52
  refine condF rfl g52 ?_
  refine cut 84 0 [(1, .int .i64 at2), (2, .mptr 0 0), (6, .mptr 1 0), (7, .osl ⟨1, 3⟩ (([] : List Int).map (cI .i64))), (49, .bool (eqI x22.Op 13))] [(Api.Fun.c f1), (Api.Instr.c x22)] ?_ ?_
  · refine st ?_
    simp
  rcases sp h with ⟨g85, h⟩ | ⟨g85, h⟩
  · have c86 := eqT g85
    refine condT rfl g85 ?_
    refine awp_seq ?_
    obtain ⟨v87, q88, h⟩ := bs h
    refine cut 84 0 [(1, .int .i64 at2), (2, .mptr 0 0), (6, .mptr 1 0), (7, .osl ⟨1, 3⟩ (([] : List Int).map (cI .i64))), (54, .bool (!v87))] [(Api.Fun.c f1), (Api.Instr.c x22)] ?_ ?_
    · refine st ?_
      simp
      have r143 := ref46_in_ok x22.B 1 1000 v87 q88
      try simp [] at r143
      refine callPure r143 (by simp) rfl ?_
      simp
    rcases sp h with ⟨g89, h⟩ | ⟨g89, h⟩
    · have g90 := notT g89
      refine condT rfl g89 ?_
      refine cut 84 0 [(4, .osl ⟨1, 3⟩ (([] : List Int).map (cI .i64))), (5, .int .i64 24)] [(Api.Fun.c f1), (Api.Instr.c x22)] ?_ ?_
      · refine st ?_
        simp
      refine awp_ret ?_
      refine ret_seq ?_
      refine ret_blk ?_
      refine ret_seq ?_
      obtain rfl := oi h
      simp
    have g91 := notF g89
    refine condF rfl g89 ?_
    refine awp_skip ?_
    refine seq_eq ?_
    refine cut 84 0 [(1, .int .i64 at2), (2, .mptr 0 0), (6, .mptr 1 0), (7, .osl ⟨1, 3⟩ (([] : List Int).map (cI .i64))), (8, .int .i64 1)] [(Api.Fun.c f1), (Api.Instr.c x22)] ?_ ?_
    · refine st ?_
      simp
    refine awp_block ?_
    obtain ⟨o94, l95, h⟩ := bs h
    refine awp_inv (fun p : Nat × (List Int) × Int => mkS 84 0 [(1, .int .i64 at2), (2, .mptr 0 0), (6, .mptr 1 0), (7, .osl ⟨1, 3⟩ (p.2.1.map (cI .i64))), (8, .int .i64 p.2.2)] [(Api.Fun.c f1), (Api.Instr.c x22)]) (fun p => M.ref46_Targets_l4 at2 x22 p.1 p.2.1 p.2.2 = some o94 ∧ 1 ≤ p.2.2) (fun p => p.1) (fuel, ([] : List Int), 1) ⟨l95, by (try dsimp only); omega⟩ (le_mkS (by simp)) ?_
    rintro ⟨k97, out92, k93⟩ ⟨l95, c96⟩
    try dsimp only at l95 c96 ⊢
    cases k97 with
    | zero =>
      rw [M.ref46_Targets_l4] at l95; cases l95
    | succ k98 =>
      rw [M.ref46_Targets_l4] at l95
      refine awp_seq ?_
      refine cut 84 0 [(1, .int .i64 at2), (2, .mptr 0 0), (6, .mptr 1 0), (7, .osl ⟨1, 3⟩ (out92.map (cI .i64))), (8, .int .i64 k93), (58, .bool (leI k93 x22.B))] [(Api.Fun.c f1), (Api.Instr.c x22)] ?_ ?_
      · refine st ?_
        simp
      rcases sp l95 with ⟨g99, l95⟩ | ⟨g99, l95⟩
      · have c100 := leT g99
        refine condT rfl g99 ?_
        refine awp_skip ?_
        refine seq_eq ?_
        refine awp_seq ?_
        refine awp_block ?_
        obtain ⟨n101, q102, l95⟩ := bs l95
        obtain ⟨q103, q104⟩ := chk_ok q102
        try simp at q103
        try simp at q104
        have c105 := q103; simp only [Rng, inR] at c105
        obtain ⟨l106, q107, l95⟩ := bs l95
        obtain ⟨q108, q109⟩ := app_ok q107
        try simp at q108
        refine last 84 0 [(1, .int .i64 at2), (2, .mptr 0 0), (6, .mptr 1 0), (7, .osl ⟨1, 3⟩ (l106.map (cI .i64))), (8, .int .i64 k93)] [(Api.Fun.c f1), (Api.Instr.c x22)] ?_ fun zz hs => ?_
        · refine st ?_
          simp [q103, q104, q108, q109]
        refine blk_n ?_
        refine seq_le ?_ hs
        obtain ⟨n110, q111, l95⟩ := bs l95
        obtain ⟨q112, q113⟩ := chk_ok q111
        try simp at q112
        try simp at q113
        have c114 := q112; simp only [Rng, inR] at c114
        refine last 84 0 [(1, .int .i64 at2), (2, .mptr 0 0), (6, .mptr 1 0), (7, .osl ⟨1, 3⟩ (l106.map (cI .i64))), (8, .int .i64 n110)] [(Api.Fun.c f1), (Api.Instr.c x22)] ?_ fun zz hs => ?_
        · refine st ?_
          simp [q112, q113]
        exact ⟨(k98, l106, n110), hs, ⟨l95, by (try dsimp only); (try unfold maxI); (first | omega | (split <;> omega))⟩, by simp⟩
      have c115 := leF g99
      refine condF rfl g99 ?_
      refine awp_exit ?_
      refine exit_seq ?_
      have q116 := Option.some.inj l95
      have q116 := q116.symm
      refine exit_seq ?_
      refine exit_blk ?_
      refine blk_n ?_
      refine seq_le (t := mkS 84 0 [(2, .mptr 0 0), (7, .osl ⟨1, 3⟩ (o94.map (cI .i64)))] [(Api.Fun.c f1), (Api.Instr.c x22)]) ?_ (le_mkS (by simp [q116]))
      refine awp_seq ?_
      refine cut 84 0 [(2, .mptr 0 0), (7, .osl ⟨1, 3⟩ (o94.map (cI .i64))), (9, .int .i64 0)] [(Api.Fun.c f1), (Api.Instr.c x22)] ?_ ?_
      · refine st ?_
        simp
      refine awp_block ?_
      obtain ⟨o119, l120, h⟩ := bs h
      refine awp_inv (fun p : Nat × Nat => mkS 84 0 [(2, .mptr 0 0), (7, .osl ⟨1, 3⟩ (o94.map (cI .i64))), (9, .int .i64 ((p.2 : Nat) : Int))] [(Api.Fun.c f1), (Api.Instr.c x22)]) (fun p => M.ref46_Targets_l5 f1 o94 p.1 p.2 = some o119) (fun p => p.1) (fuel, 0) l120 (le_mkS (by simp)) ?_
      rintro ⟨k121, k117⟩ l120
      try dsimp only at l120 ⊢
      cases k121 with
      | zero =>
        rw [M.ref46_Targets_l5] at l120; cases l120
      | succ k122 =>
        rw [M.ref46_Targets_l5] at l120
        refine awp_seq ?_
        refine cut 84 0 [(2, .mptr 0 0), (7, .osl ⟨1, 3⟩ (o94.map (cI .i64))), (9, .int .i64 ((k117 : Nat) : Int)), (70, .bool (ltI ((k117 : Nat) : Int) (o94.length : Int)))] [(Api.Fun.c f1), (Api.Instr.c x22)] ?_ ?_
        · refine st ?_
          simp
        rcases sp l120 with ⟨g123, l120⟩ | ⟨g123, l120⟩
        · have c124 := ltT g123
          refine condT rfl g123 ?_
          refine factL 7 rfl fun f125 => ?_
          rw [List.length_map] at f125
          refine awp_skip ?_
          refine seq_eq ?_
          refine awp_seq ?_
          refine awp_block ?_
          obtain ⟨x126, q127, l120⟩ := bs l120
          obtain ⟨n128, q129, l120⟩ := bs l120
          obtain ⟨q130, q131⟩ := chk_ok q129
          try simp at q130
          try simp at q131
          have c132 := q130; simp only [Rng, inR] at c132
          obtain ⟨v133, q134, l120⟩ := bs l120
          refine cut 84 0 [(2, .mptr 0 0), (7, .osl ⟨1, 3⟩ (o94.map (cI .i64))), (9, .int .i64 ((k117 : Nat) : Int)), (82, .bool (!v133))] [(Api.Fun.c f1), (Api.Instr.c x22)] ?_ ?_
          · refine awp_region_draw [] mixed (n := 84) rfl (by decide) ?_
            simp [q127, q130, q131]
            have r139 := ref46_in_ok x126 0 n128 v133 q134
            try simp [q127, q130, q131] at r139
            refine callD r139 (by simp) rfl ?_
            simp [q127, q130, q131]
          rcases sp l120 with ⟨g135, l120⟩ | ⟨g135, l120⟩
          · have g136 := notT g135
            refine condT rfl g135 ?_
            refine cut 84 0 [(4, .osl ⟨1, 3⟩ (([] : List Int).map (cI .i64))), (5, .int .i64 24)] [(Api.Fun.c f1), (Api.Instr.c x22)] ?_ ?_
            · refine st ?_
              simp
            refine awp_ret ?_
            refine ret_blk ?_
            refine ret_seq ?_
            replace h := retL l120 h
            refine ret_seq ?_
            refine ret_blk ?_
            refine ret_seq ?_
            obtain rfl := oi h
            simp
          have g137 := notF g135
          refine condF rfl g135 ?_
          refine awp_skip ?_
          refine blk_n ?_
          refine seq_eq ?_
          have q138 : Rng .i64 (((k117 : Nat) : Int) + 1) := by simp only [Rng, inR]; omega
          try simp at q138
          refine last 84 0 [(2, .mptr 0 0), (7, .osl ⟨1, 3⟩ (o94.map (cI .i64))), (9, .int .i64 ((k117 + 1 : Nat) : Int))] [(Api.Fun.c f1), (Api.Instr.c x22)] ?_ fun zz hs => ?_
          · refine st ?_
            simp [q138]
          exact ⟨(k122, k117 + 1), hs, l120, by simp⟩
        have c140 := ltF g123
        refine condF rfl g123 ?_
        refine factL 7 rfl fun f141 => ?_
        rw [List.length_map] at f141
        refine awp_exit ?_
        refine exit_seq ?_
        rcases o119 with o119 | o118
        · cases l120
        have q142 := Sum.inr.inj (Option.some.inj l120)
        replace h := elimR h
        refine exit_seq ?_
        refine exit_blk ?_
        refine seq_le (t := mkS 84 0 [(7, .osl ⟨1, 3⟩ (o94.map (cI .i64)))] [(Api.Fun.c f1), (Api.Instr.c x22)]) ?_ (le_mkS (by simp []))
        refine cut 84 0 [(4, .osl ⟨1, 3⟩ (o94.map (cI .i64))), (5, .int .i64 0)] [(Api.Fun.c f1), (Api.Instr.c x22)] ?_ ?_
        · refine st ?_
          simp
        refine awp_ret ?_
        obtain rfl := oi h
        simp
  have c144 := eqF g85
  refine condF rfl g85 ?_
  obtain ⟨n145, q146, h⟩ := bs h
  obtain ⟨q147, q148⟩ := chk_ok q146
  try simp at q147
  try simp at q148
  have c149 := q147; simp only [Rng, inR] at c149
  obtain ⟨l150, q151, h⟩ := bs h
  obtain ⟨q152, q153⟩ := app_ok q151
  try simp at q152
  refine last 84 0 [(2, .mptr 0 0), (7, .osl ⟨1, 3⟩ (l150.map (cI .i64)))] [(Api.Fun.c f1), (Api.Instr.c x22)] ?_ fun zz hs => ?_
  · refine st ?_
    simp [q147, q148, q152, q153]
  refine blk_n ?_
  refine seq_le ?_ hs
  refine awp_seq ?_
  refine cut 84 0 [(2, .mptr 0 0), (7, .osl ⟨1, 3⟩ (l150.map (cI .i64))), (9, .int .i64 0)] [(Api.Fun.c f1), (Api.Instr.c x22)] ?_ ?_
  · refine st ?_
    simp
  refine awp_block ?_
  obtain ⟨o156, l157, h⟩ := bs h
  refine awp_inv (fun p : Nat × Nat => mkS 84 0 [(2, .mptr 0 0), (7, .osl ⟨1, 3⟩ (l150.map (cI .i64))), (9, .int .i64 ((p.2 : Nat) : Int))] [(Api.Fun.c f1), (Api.Instr.c x22)]) (fun p => M.ref46_Targets_l6 f1 l150 p.1 p.2 = some o156) (fun p => p.1) (fuel, 0) l157 (le_mkS (by simp)) ?_
  rintro ⟨k158, k154⟩ l157
  try dsimp only at l157 ⊢
  cases k158 with
  | zero =>
    rw [M.ref46_Targets_l6] at l157; cases l157
  | succ k159 =>
    rw [M.ref46_Targets_l6] at l157
    refine awp_seq ?_
    refine cut 84 0 [(2, .mptr 0 0), (7, .osl ⟨1, 3⟩ (l150.map (cI .i64))), (9, .int .i64 ((k154 : Nat) : Int)), (70, .bool (ltI ((k154 : Nat) : Int) (l150.length : Int)))] [(Api.Fun.c f1), (Api.Instr.c x22)] ?_ ?_
    · refine st ?_
      simp
    rcases sp l157 with ⟨g160, l157⟩ | ⟨g160, l157⟩
    · have c161 := ltT g160
      refine condT rfl g160 ?_
      refine factL 7 rfl fun f162 => ?_
      rw [List.length_map] at f162
      refine awp_skip ?_
      refine seq_eq ?_
      refine awp_seq ?_
      refine awp_block ?_
      obtain ⟨x163, q164, l157⟩ := bs l157
      obtain ⟨n165, q166, l157⟩ := bs l157
      obtain ⟨q167, q168⟩ := chk_ok q166
      try simp at q167
      try simp at q168
      have c169 := q167; simp only [Rng, inR] at c169
      obtain ⟨v170, q171, l157⟩ := bs l157
      refine cut 84 0 [(2, .mptr 0 0), (7, .osl ⟨1, 3⟩ (l150.map (cI .i64))), (9, .int .i64 ((k154 : Nat) : Int)), (82, .bool (!v170))] [(Api.Fun.c f1), (Api.Instr.c x22)] ?_ ?_
      · refine awp_region_draw [] mixed (n := 84) rfl (by decide) ?_
        simp [q164, q167, q168]
        have r176 := ref46_in_ok x163 0 n165 v170 q171
        try simp [q164, q167, q168] at r176
        refine callD r176 (by simp) rfl ?_
        simp [q164, q167, q168]
      rcases sp l157 with ⟨g172, l157⟩ | ⟨g172, l157⟩
      · have g173 := notT g172
        refine condT rfl g172 ?_
        refine cut 84 0 [(4, .osl ⟨1, 3⟩ (([] : List Int).map (cI .i64))), (5, .int .i64 24)] [(Api.Fun.c f1), (Api.Instr.c x22)] ?_ ?_
        · refine st ?_
          simp
        refine awp_ret ?_
        refine ret_blk ?_
        refine ret_seq ?_
        replace h := retL l157 h
        refine ret_seq ?_
        refine ret_blk ?_
        refine ret_seq ?_
        obtain rfl := oi h
        simp
      have g174 := notF g172
      refine condF rfl g172 ?_
      refine awp_skip ?_
      refine blk_n ?_
      refine seq_eq ?_
      have q175 : Rng .i64 (((k154 : Nat) : Int) + 1) := by simp only [Rng, inR]; omega
      try simp at q175
      refine last 84 0 [(2, .mptr 0 0), (7, .osl ⟨1, 3⟩ (l150.map (cI .i64))), (9, .int .i64 ((k154 + 1 : Nat) : Int))] [(Api.Fun.c f1), (Api.Instr.c x22)] ?_ fun zz hs => ?_
      · refine st ?_
        simp [q175]
      exact ⟨(k159, k154 + 1), hs, l157, by simp⟩
    have c177 := ltF g160
    refine condF rfl g160 ?_
    refine factL 7 rfl fun f178 => ?_
    rw [List.length_map] at f178
    refine awp_exit ?_
    refine exit_seq ?_
    rcases o156 with o156 | o155
    · cases l157
    have q179 := Sum.inr.inj (Option.some.inj l157)
    replace h := elimR h
    refine exit_seq ?_
    refine exit_blk ?_
    refine seq_le (t := mkS 84 0 [(7, .osl ⟨1, 3⟩ (l150.map (cI .i64)))] [(Api.Fun.c f1), (Api.Instr.c x22)]) ?_ (le_mkS (by simp []))
    refine cut 84 0 [(4, .osl ⟨1, 3⟩ (l150.map (cI .i64))), (5, .int .i64 0)] [(Api.Fun.c f1), (Api.Instr.c x22)] ?_ ?_
    · refine st ?_
      simp
    refine awp_ret ?_
    obtain rfl := oi h
    simp
end Go.Proofs.Ythbjlmoaceaeeaa
set_option linter.unusedVariables false
set_option linter.unusedSimpArgs false
set_option maxRecDepth 100000
set_option maxHeartbeats 1000000
namespace Go.Proofs.Ythbjlmoaceaeeaa
open Go Go.Abs
theorem ref48_after_ok (i1 : Api.Instr) (set2 : (List Bool)) (r : (List Bool)) (h : M.ref48_after i1 set2 = some r) : Pure Try.prog 89 [.agg [.int .i64 i1.Op, .int .i64 i1.A, .int .i64 i1.B], .sl (set2.map cB)] (.sl (r.map cB)) := by
  rw [M.ref48_after] at h
  refine pure_of_bodyF [true] Try.func89 (by rfl) (by rfl) (by simp) (by simp) (by simp) ?_
  refine cut 22 0 [(1, .sl (set2.map cB)), (2, .mptr 0 0)] [(Api.Instr.c i1)] ?_ ?_
  · refine st ?_
    simp
  obtain ⟨l3, q4, h⟩ := bs h
  obtain ⟨q5, q6⟩ := clC_ok q4
  have q7 := clC_row (cB) l3
  try simp at q7
  refine cut 22 0 [(2, .mptr 0 0), (5, .msl 1 1 l3.length)] [(Api.Instr.c i1), row cB l3] ?_ ?_
  · refine st ?_
    simp [q5, q6, q7]
    refine empR ?_
    simp [q5, q6, q7]
  refine awp_seq ?_
  refine cut 22 0 [(2, .mptr 0 0), (5, .msl 1 1 l3.length), (16, .bool ((eqI i1.Op 4) || (eqI i1.Op 13)))] [(Api.Instr.c i1), row cB l3] ?_ ?_
  · rcases tf (eqI i1.Op 4) with g8 | g8
    · have c9 := eqT g8
      refine st ?_
      simp [g8]
    have c10 := eqF g8
    refine st ?_
    simp [g8]
  rcases sp h with ⟨g11, h⟩ | ⟨g11, h⟩
  · refine condT rfl g11 ?_
    obtain ⟨u12, q13, h⟩ := bs h
    have q14 := ixC_ok q13
    have q15 := ixC_nat q13
    try simp at q14
    try simp at q15
    refine last 22 0 [(5, .msl 1 1 ((l3.set (Int.toNat i1.A) true).length))] [(Api.Instr.c i1), row cB (l3.set (Int.toNat i1.A) true)] ?_ fun zz hs => ?_
    · refine st ?_
      simp [q14, q15]
    refine seq_le ?_ hs
    refine cut 22 0 [(4, .msl 1 1 ((l3.set (Int.toNat i1.A) true).length))] [(Api.Instr.c i1), row cB (l3.set (Int.toNat i1.A) true)] ?_ ?_
    · refine st ?_
      simp
    refine awp_ret ?_
    obtain rfl := oi h
    simp
  obtain ⟨g16, g17⟩ := orF g11
  have c18 := eqF g16
  have c19 := eqF g17
  refine condF rfl g11 ?_
  refine awp_skip ?_
  refine seq_eq ?_
  refine cut 22 0 [(4, .msl 1 1 l3.length)] [(Api.Instr.c i1), row cB l3] ?_ ?_
  · refine st ?_
    simp
  refine awp_ret ?_
  obtain rfl := oi h
  simp
end Go.Proofs.Ythbjlmoaceaeeaa
set_option linter.unusedVariables false
set_option linter.unusedSimpArgs false
set_option maxRecDepth 100000
set_option maxHeartbeats 1000000
namespace Go.Proofs.Ythbjlmoaceaeeaa
open Go Go.Abs
theorem ref48_Fun_ok (fuel : Nat) (f1 : Api.Fun) (r : Ref48.States × Bool) (h : M.ref48_Fun fuel f1 = some r) : Pure Try.prog 50 [.agg [.int .i64 f1.Captures, .int .i64 f1.Locals, .int .i64 f1.Depth, .sl (f1.Code.map Api.Instr.c)]] (.tup [.agg [.sl (r.1.Reached.map cB), .sl (r.1.Depths.map (cI .i64)), .sl (r.1.Set.map (cL cB))], .bool r.2]) := by
  rw [M.ref48_Fun] at h
  refine pure_of_bodyF [false, true, true, true] Try.func50 (by rfl) (by rfl) (by simp) (by simp) (by simp) ?_
  refine cut 128 0 [(1, .mptr 0 0), (2, .mptr 1 0)] [(Api.Fun.c f1), [.osl ⟨1, 4⟩ (([] : List Bool).map cB), .osl ⟨1, 3⟩ (([] : List Int).map (cI .i64)), .osl ⟨1, 28⟩ (([] : List (List Bool)).map (cL cB))]] ?_ ?_
  · refine st ?_
    simp
  refine cut 128 0 [(1, .mptr 0 0), (2, .mptr 1 0), (4, .int .i64 (f1.Code.length : Int))] [(Api.Fun.c f1), [.osl ⟨1, 4⟩ (([] : List Bool).map cB), .osl ⟨1, 3⟩ (([] : List Int).map (cI .i64)), .osl ⟨1, 28⟩ (([] : List (List Bool)).map (cL cB))]] ?_ ?_
  · refine st ?_
    simp
  obtain ⟨l2, q3, h⟩ := bs h
  obtain ⟨q4, q5⟩ := mkL_ok q3
  have q6 := mkL_len q5
  have q7 := mkL_row (c := cB) q5
  try simp at q6
  try simp at q7
  try simp at q4
  obtain ⟨l8, q9, h⟩ := bs h
  obtain ⟨q10, q11⟩ := mkL_ok q9
  have q12 := mkL_len q11
  have q13 := mkL_row (c := (cI .i64)) q11
  try simp at q12
  try simp at q13
  try simp at q10
  obtain ⟨l14, q15, h⟩ := bs h
  obtain ⟨q16, q17⟩ := mkL_ok q15
  have q18 := mkL_len q17
  have q19 := mkL_nsl (f := cB) q17
  try simp at q18
  try simp at q19
  try simp at q16
  refine cut 128 0 [(1, .mptr 0 0), (2, .mptr 1 0), (4, .int .i64 (f1.Code.length : Int)), (5, .mptr 5 0)] [(Api.Fun.c f1), [.osl ⟨1, 4⟩ (([] : List Bool).map cB), .osl ⟨1, 3⟩ (([] : List Int).map (cI .i64)), .osl ⟨1, 28⟩ (([] : List (List Bool)).map (cL cB))], row cB l2, row (cI .i64) l8, row (cL cB) l14, [.msl 2 1 l2.length, .msl 3 1 l8.length, .msl 4 1 l14.length]] ?_ ?_
  · refine awp_region_free mixed 8 (fun L s => ∃ (pos : Nat → Nat) (bl : List (List AV)), NPos [(1, (List.replicate (Int.toNat (f1.Code.length : Int)) [.bool false]).flatten), (3, (List.replicate (Int.toNat (f1.Code.length : Int)) [.int .i64 0]).flatten), (5, (List.replicate (Int.toNat (f1.Code.length : Int)) [.nsl]).flatten), (7, [.nsl, .nsl, .nsl])] L pos bl ∧ s.n = 128 ∧ s.base = 0 ∧ (∀ t, s.loans t = none) ∧ s.blocks = [[.int .i64 f1.Captures, .int .i64 f1.Locals, .int .i64 f1.Depth, .sl (f1.Code.map Api.Instr.c)], [.osl ⟨1, 4⟩ (([] : List Bool).map cB), .osl ⟨1, 3⟩ (([] : List Int).map (cI .i64)), .osl ⟨1, 28⟩ (([] : List (List Bool)).map (cL cB))]] ++ bl ∧ s.get 1 = .mptr 0 0 ∧ s.get 2 = .mptr 1 0 ∧ s.get 4 = .int .i64 (f1.Code.length : Int) ∧ (L 0 = true → s.get 21 = .int .i64 (f1.Code.length : Int)) ∧ (L 1 = true → s.get 22 = .msl (pos 1 + 2) 1 l2.length) ∧ (L 2 = true → s.get 23 = .int .i64 (f1.Code.length : Int)) ∧ (L 3 = true → s.get 24 = .msl (pos 3 + 2) 1 l8.length) ∧ (L 4 = true → s.get 25 = .int .i64 (f1.Code.length : Int)) ∧ (L 5 = true → s.get 26 = .msl (pos 5 + 2) 1 l14.length) ∧ (L 6 = true → s.get 27 = .agg [.msl (pos 1 + 2) 1 l2.length, .msl (pos 3 + 2) 1 l8.length, .msl (pos 5 + 2) 1 l14.length]) ∧ (L 7 = true → s.get 5 = .mptr (pos 7 + 2) 0) ∧ (L 6 = true → L 1 = true ∧ L 3 = true ∧ L 5 = true)) (by decide) ⟨fun _ => 0, [], NPos.start _ _, by simp⟩ ?_ ?_
    · refine ⟨?_, ?_, ?_, ?_, ?_, ?_, ?_, ?_, trivial⟩
      · intro L s hL he hI
        obtain ⟨pos, bl, hN, n1, n2, n3, n4, w1, w2, w4, v0, v1, v2, v3, v4, v5, v6, v7, c6⟩ := hI
        try simp [q4, q6, q7, q10, q12, q13, q16, q18, q19] at v0 v1 v2 v3 v4 v5 v6 v7
        refine AStep.mono ?_ fun s' h => ⟨_, _, hN.skip (by simp), h⟩
        simp [n1, n2, n3, n4, w1, w2, w4, v0, v1, v2, v3, v4, v5, v6, v7, q4, q6, q7, q10, q12, q13, q16, q18, q19]
        repeat' (first | exact v0 | exact v1 | exact v2 | exact v3 | exact v4 | exact v5 | exact v6 | exact v7 | exact c6 | exact fun h => absurd (c6 h) (by simp [hL]) | refine ⟨?_, ?_⟩)
      · intro L s hL he hI
        obtain ⟨pos, bl, hN, n1, n2, n3, n4, w1, w2, w4, v0, v1, v2, v3, v4, v5, v6, v7, c6⟩ := hI
        try simp [q4, q6, q7, q10, q12, q13, q16, q18, q19] at v0 v1 v2 v3 v4 v5 v6 v7
        replace v0 := v0 ((List.all_eq_true.1 he) 0 (by decide))
        refine AStep.mono ?_ fun s' h => ⟨_, _, hN.push (i := 1) (blk := (List.replicate (Int.toNat (f1.Code.length : Int)) [.bool false]).flatten) (by simp) (by simp) hL, h⟩
        simp [n1, n2, n3, n4, w1, w2, w4, v0, v1, v2, v3, v4, v5, v6, v7, q4, q6, q7, q10, q12, q13, q16, q18, q19]
        repeat' (first | exact v0 | exact v1 | exact v2 | exact v3 | exact v4 | exact v5 | exact v6 | exact v7 | exact c6 | exact fun h => absurd (c6 h) (by simp [hL]) | exact (List.all_eq_true.1 he) 0 (by decide) | refine ⟨?_, ?_⟩)
      · intro L s hL he hI
        obtain ⟨pos, bl, hN, n1, n2, n3, n4, w1, w2, w4, v0, v1, v2, v3, v4, v5, v6, v7, c6⟩ := hI
        try simp [q4, q6, q7, q10, q12, q13, q16, q18, q19] at v0 v1 v2 v3 v4 v5 v6 v7
        refine AStep.mono ?_ fun s' h => ⟨_, _, hN.skip (by simp), h⟩
        simp [n1, n2, n3, n4, w1, w2, w4, v0, v1, v2, v3, v4, v5, v6, v7, q4, q6, q7, q10, q12, q13, q16, q18, q19]
        repeat' (first | exact v0 | exact v1 | exact v2 | exact v3 | exact v4 | exact v5 | exact v6 | exact v7 | exact c6 | exact fun h => absurd (c6 h) (by simp [hL]) | refine ⟨?_, ?_⟩)
      · intro L s hL he hI
        obtain ⟨pos, bl, hN, n1, n2, n3, n4, w1, w2, w4, v0, v1, v2, v3, v4, v5, v6, v7, c6⟩ := hI
        try simp [q4, q6, q7, q10, q12, q13, q16, q18, q19] at v0 v1 v2 v3 v4 v5 v6 v7
        replace v2 := v2 ((List.all_eq_true.1 he) 2 (by decide))
        refine AStep.mono ?_ fun s' h => ⟨_, _, hN.push (i := 3) (blk := (List.replicate (Int.toNat (f1.Code.length : Int)) [.int .i64 0]).flatten) (by simp) (by simp) hL, h⟩
        simp [n1, n2, n3, n4, w1, w2, w4, v0, v1, v2, v3, v4, v5, v6, v7, q4, q6, q7, q10, q12, q13, q16, q18, q19]
        repeat' (first | exact v0 | exact v1 | exact v2 | exact v3 | exact v4 | exact v5 | exact v6 | exact v7 | exact c6 | exact fun h => absurd (c6 h) (by simp [hL]) | exact (List.all_eq_true.1 he) 2 (by decide) | refine ⟨?_, ?_⟩)
      · intro L s hL he hI
        obtain ⟨pos, bl, hN, n1, n2, n3, n4, w1, w2, w4, v0, v1, v2, v3, v4, v5, v6, v7, c6⟩ := hI
        try simp [q4, q6, q7, q10, q12, q13, q16, q18, q19] at v0 v1 v2 v3 v4 v5 v6 v7
        refine AStep.mono ?_ fun s' h => ⟨_, _, hN.skip (by simp), h⟩
        simp [n1, n2, n3, n4, w1, w2, w4, v0, v1, v2, v3, v4, v5, v6, v7, q4, q6, q7, q10, q12, q13, q16, q18, q19]
        repeat' (first | exact v0 | exact v1 | exact v2 | exact v3 | exact v4 | exact v5 | exact v6 | exact v7 | exact c6 | exact fun h => absurd (c6 h) (by simp [hL]) | refine ⟨?_, ?_⟩)
      · intro L s hL he hI
        obtain ⟨pos, bl, hN, n1, n2, n3, n4, w1, w2, w4, v0, v1, v2, v3, v4, v5, v6, v7, c6⟩ := hI
        try simp [q4, q6, q7, q10, q12, q13, q16, q18, q19] at v0 v1 v2 v3 v4 v5 v6 v7
        replace v4 := v4 ((List.all_eq_true.1 he) 4 (by decide))
        refine AStep.mono ?_ fun s' h => ⟨_, _, hN.push (i := 5) (blk := (List.replicate (Int.toNat (f1.Code.length : Int)) [.nsl]).flatten) (by simp) (by simp) hL, h⟩
        simp [n1, n2, n3, n4, w1, w2, w4, v0, v1, v2, v3, v4, v5, v6, v7, q4, q6, q7, q10, q12, q13, q16, q18, q19]
        repeat' (first | exact v0 | exact v1 | exact v2 | exact v3 | exact v4 | exact v5 | exact v6 | exact v7 | exact c6 | exact fun h => absurd (c6 h) (by simp [hL]) | exact (List.all_eq_true.1 he) 4 (by decide) | refine ⟨?_, ?_⟩)
      · intro L s hL he hI
        obtain ⟨pos, bl, hN, n1, n2, n3, n4, w1, w2, w4, v0, v1, v2, v3, v4, v5, v6, v7, c6⟩ := hI
        try simp [q4, q6, q7, q10, q12, q13, q16, q18, q19] at v0 v1 v2 v3 v4 v5 v6 v7
        replace v1 := v1 ((List.all_eq_true.1 he) 1 (by decide))
        replace v3 := v3 ((List.all_eq_true.1 he) 3 (by decide))
        replace v5 := v5 ((List.all_eq_true.1 he) 5 (by decide))
        refine AStep.mono ?_ fun s' h => ⟨_, _, hN.skip (by simp), h⟩
        simp [n1, n2, n3, n4, w1, w2, w4, v0, v1, v2, v3, v4, v5, v6, v7, q4, q6, q7, q10, q12, q13, q16, q18, q19]
        repeat' (first | exact v0 | exact v1 | exact v2 | exact v3 | exact v4 | exact v5 | exact v6 | exact v7 | exact c6 | exact fun h => absurd (c6 h) (by simp [hL]) | exact (List.all_eq_true.1 he) 1 (by decide) | exact (List.all_eq_true.1 he) 3 (by decide) | exact (List.all_eq_true.1 he) 5 (by decide) | refine ⟨?_, ?_⟩)
      · intro L s hL he hI
        obtain ⟨pos, bl, hN, n1, n2, n3, n4, w1, w2, w4, v0, v1, v2, v3, v4, v5, v6, v7, c6⟩ := hI
        try simp [q4, q6, q7, q10, q12, q13, q16, q18, q19] at v0 v1 v2 v3 v4 v5 v6 v7
        refine AStep.mono ?_ fun s' h => ⟨_, _, hN.push (i := 7) (blk := [.nsl, .nsl, .nsl]) (by simp) (by simp) hL, h⟩
        simp [n1, n2, n3, n4, w1, w2, w4, v0, v1, v2, v3, v4, v5, v6, v7, q4, q6, q7, q10, q12, q13, q16, q18, q19]
        repeat' (first | exact v0 | exact v1 | exact v2 | exact v3 | exact v4 | exact v5 | exact v6 | exact v7 | exact c6 | exact fun h => absurd (c6 h) (by simp [hL]) | refine ⟨?_, ?_⟩)
    · rintro L s hall ⟨pos, bl, hN, n1, n2, n3, n4, w1, w2, w4, v0, v1, v2, v3, v4, v5, v6, v7, c6⟩
      try simp [q4, q6, q7, q10, q12, q13, q16, q18, q19] at v0 v1 v2 v3 v4 v5 v6 v7
      replace v0 := v0 (hall 0 (by decide))
      replace v1 := v1 (hall 1 (by decide))
      replace v2 := v2 (hall 2 (by decide))
      replace v3 := v3 (hall 3 (by decide))
      replace v4 := v4 (hall 4 (by decide))
      replace v5 := v5 (hall 5 (by decide))
      replace v6 := v6 (hall 6 (by decide))
      replace v7 := v7 (hall 7 (by decide))
      obtain ⟨f, hf, hk, hg⟩ := hN.ghost (by simp) (by simp [hall 1 (by decide), hall 3 (by decide), hall 5 (by decide), hall 7 (by decide)]) n4 (by simp [n2])
      have k0 : f (pos 1 + 2) = 2 := by have := hk 0 _ rfl; simpa [Nat.add_comm] using this
      have k1 : f (pos 3 + 2) = 3 := by have := hk 1 _ rfl; simpa [Nat.add_comm] using this
      have k2 : f (pos 5 + 2) = 4 := by have := hk 2 _ rfl; simpa [Nat.add_comm] using this
      have k3 : f (pos 7 + 2) = 5 := by have := hk 3 _ rfl; simpa [Nat.add_comm] using this
      simp at hf
      refine ⟨_, hg, ?_⟩
      simp [AV.ren, AV.renL, hf, k0, k1, k2, k3, n1, n2, n3, n4, w1, w2, w4, v0, v1, v2, v3, v4, v5, v6, v7, q4, q6, q7, q10, q12, q13, q16, q18, q19]
  obtain ⟨l20, q21, h⟩ := bs h
  obtain ⟨q22, q23⟩ := mkL_ok q21
  have q24 := mkL_len q23
  have q25 := mkL_row (c := cB) q23
  try simp at q24
  try simp at q25
  try simp at q22
  refine cut 128 0 [(1, .mptr 0 0), (2, .mptr 1 0), (4, .int .i64 (f1.Code.length : Int)), (5, .mptr 5 0), (6, .msl 6 1 l20.length)] [(Api.Fun.c f1), [.osl ⟨1, 4⟩ (([] : List Bool).map cB), .osl ⟨1, 3⟩ (([] : List Int).map (cI .i64)), .osl ⟨1, 28⟩ (([] : List (List Bool)).map (cL cB))], row cB l2, row (cI .i64) l8, row (cL cB) l14, [.msl 2 1 l2.length, .msl 3 1 l8.length, .msl 4 1 l14.length], row cB l20] ?_ ?_
  · refine st ?_
    simp [q22, q24, q25]
  obtain ⟨u26, q27, h⟩ := bs h
  have q28 := ixC_ok q27
  have q29 := ixC_nat q27
  try simp at q28
  try simp at q29
  refine cut 128 0 [(1, .mptr 0 0), (2, .mptr 1 0), (4, .int .i64 (f1.Code.length : Int)), (5, .mptr 5 0), (6, .msl 6 1 ((l20.set 0 true).length))] [(Api.Fun.c f1), [.osl ⟨1, 4⟩ (([] : List Bool).map cB), .osl ⟨1, 3⟩ (([] : List Int).map (cI .i64)), .osl ⟨1, 28⟩ (([] : List (List Bool)).map (cL cB))], row cB l2, row (cI .i64) l8, row (cL cB) l14, [.msl 2 1 l2.length, .msl 3 1 l8.length, .msl 4 1 l14.length], row cB (l20.set 0 true)] ?_ ?_
  · refine st ?_
    simp [q28, q29]
  obtain ⟨v30, q31, h⟩ := bs h
  obtain ⟨u32, q33, h⟩ := bs h
  have q34 := lenC_ok q33
  obtain ⟨u35, q36, h⟩ := bs h
  have q37 := lenC_ok q36
  obtain ⟨u38, q39, h⟩ := bs h
  have q40 := lenC_ok q39
  refine cut 128 0 [(1, .mptr 0 0), (2, .mptr 1 0), (4, .int .i64 (f1.Code.length : Int)), (5, .mptr 5 0)] [(Api.Fun.c f1), [.osl ⟨1, 4⟩ (([] : List Bool).map cB), .osl ⟨1, 3⟩ (([] : List Int).map (cI .i64)), .osl ⟨1, 28⟩ (([] : List (List Bool)).map (cL cB))], row cB v30.2.2.1, row (cI .i64) v30.2.2.2.1, row (cL cB) v30.2.2.2.2, [.msl 2 1 v30.2.2.1.length, .msl 3 1 v30.2.2.2.1.length, .msl 4 1 v30.2.2.2.2.length]] ?_ ?_
  · refine st ?_
    simp [q34, q37, q40]
    refine callFz (by simp [q34, q37, q40]) ?_
    simp [q34, q37, q40]
    have r206 := (ref48_meets_ok fuel 0 0 (l20.set 0 true) l2 l8 l14 v30 q31).frame [2, 3, 4] [[.int .i64 f1.Captures, .int .i64 f1.Locals, .int .i64 f1.Depth, .sl (f1.Code.map Api.Instr.c)], [.osl ⟨1, 4⟩ (([] : List Bool).map cB), .osl ⟨1, 3⟩ (([] : List Int).map (cI .i64)), .osl ⟨1, 28⟩ (([] : List (List Bool)).map (cL cB))], row cB l2, row (cI .i64) l8, row (cL cB) l14, [.msl 2 1 l2.length, .msl 3 1 l8.length, .msl 4 1 l14.length]] (by simp)
    try simp [q34, q37, q40] at r206
    refine callRaw r206 (by simp [q34, q37, q40]) rfl ?_
    simp [q34, q37, q40]
  refine awp_seq ?_
  refine cut 128 0 [(1, .mptr 0 0), (2, .mptr 1 0), (4, .int .i64 (f1.Code.length : Int)), (5, .mptr 5 0), (7, .bool true)] [(Api.Fun.c f1), [.osl ⟨1, 4⟩ (([] : List Bool).map cB), .osl ⟨1, 3⟩ (([] : List Int).map (cI .i64)), .osl ⟨1, 28⟩ (([] : List (List Bool)).map (cL cB))], row cB v30.2.2.1, row (cI .i64) v30.2.2.2.1, row (cL cB) v30.2.2.2.2, [.msl 2 1 v30.2.2.1.length, .msl 3 1 v30.2.2.2.1.length, .msl 4 1 v30.2.2.2.2.length]] ?_ ?_
  · refine st ?_
    simp
  refine awp_block ?_
  obtain ⟨o46, l47, h⟩ := bs h
  refine awp_inv (fun p : Nat × (List Bool) × (List Int) × (List (List Bool)) × Bool => mkS 128 0 [(1, .mptr 0 0), (2, .mptr 1 0), (4, .int .i64 (f1.Code.length : Int)), (5, .mptr 5 0), (7, .bool p.2.2.2.2)] [(Api.Fun.c f1), [.osl ⟨1, 4⟩ (([] : List Bool).map cB), .osl ⟨1, 3⟩ (([] : List Int).map (cI .i64)), .osl ⟨1, 28⟩ (([] : List (List Bool)).map (cL cB))], row cB p.2.1, row (cI .i64) p.2.2.1, row (cL cB) p.2.2.2.1, [.msl 2 1 p.2.1.length, .msl 3 1 p.2.2.1.length, .msl 4 1 p.2.2.2.1.length]]) (fun p => M.ref48_Fun_l1 fuel f1 p.1 p.2.1 p.2.2.1 p.2.2.2.1 p.2.2.2.2 = some o46) (fun p => p.1) (fuel, v30.2.2.1, v30.2.2.2.1, v30.2.2.2.2, true) l47 (le_mkS (by simp)) ?_
  rintro ⟨k48, l41, l42, l43, changed44⟩ l47
  try dsimp only at l47 ⊢
  cases k48 with
  | zero =>
    rw [M.ref48_Fun_l1] at l47; cases l47
  | succ k49 =>
    rw [M.ref48_Fun_l1] at l47
    refine awp_seq ?_
    refine cut 128 0 [(1, .mptr 0 0), (2, .mptr 1 0), (4, .int .i64 (f1.Code.length : Int)), (5, .mptr 5 0), (36, .bool changed44)] [(Api.Fun.c f1), [.osl ⟨1, 4⟩ (([] : List Bool).map cB), .osl ⟨1, 3⟩ (([] : List Int).map (cI .i64)), .osl ⟨1, 28⟩ (([] : List (List Bool)).map (cL cB))], row cB l41, row (cI .i64) l42, row (cL cB) l43, [.msl 2 1 l41.length, .msl 3 1 l42.length, .msl 4 1 l43.length]] ?_ ?_
    · refine st ?_
      simp
    rcases sp l47 with ⟨g50, l47⟩ | ⟨g50, l47⟩
    · refine condT rfl g50 ?_
      refine awp_skip ?_
      refine seq_eq ?_
      refine awp_block ?_
      refine cut 128 0 [(1, .mptr 0 0), (2, .mptr 1 0), (4, .int .i64 (f1.Code.length : Int)), (5, .mptr 5 0), (7, .bool false)] [(Api.Fun.c f1), [.osl ⟨1, 4⟩ (([] : List Bool).map cB), .osl ⟨1, 3⟩ (([] : List Int).map (cI .i64)), .osl ⟨1, 28⟩ (([] : List (List Bool)).map (cL cB))], row cB l41, row (cI .i64) l42, row (cL cB) l43, [.msl 2 1 l41.length, .msl 3 1 l42.length, .msl 4 1 l43.length]] ?_ ?_
      · refine st ?_
        simp
      refine cut 128 0 [(1, .mptr 0 0), (2, .mptr 1 0), (4, .int .i64 (f1.Code.length : Int)), (5, .mptr 5 0), (7, .bool false), (8, .int .i64 0)] [(Api.Fun.c f1), [.osl ⟨1, 4⟩ (([] : List Bool).map cB), .osl ⟨1, 3⟩ (([] : List Int).map (cI .i64)), .osl ⟨1, 28⟩ (([] : List (List Bool)).map (cL cB))], row cB l41, row (cI .i64) l42, row (cL cB) l43, [.msl 2 1 l41.length, .msl 3 1 l42.length, .msl 4 1 l43.length]] ?_ ?_
      · refine st ?_
        simp
      refine awp_block ?_
      obtain ⟨o57, l58, l47⟩ := bs l47
      refine awp_inv (fun p : Nat × (List Bool) × (List Int) × (List (List Bool)) × Bool × Nat => mkS 128 0 [(1, .mptr 0 0), (2, .mptr 1 0), (4, .int .i64 (f1.Code.length : Int)), (5, .mptr 5 0), (7, .bool p.2.2.2.2.1), (8, .int .i64 ((p.2.2.2.2.2 : Nat) : Int))] [(Api.Fun.c f1), [.osl ⟨1, 4⟩ (([] : List Bool).map cB), .osl ⟨1, 3⟩ (([] : List Int).map (cI .i64)), .osl ⟨1, 28⟩ (([] : List (List Bool)).map (cL cB))], row cB p.2.1, row (cI .i64) p.2.2.1, row (cL cB) p.2.2.2.1, [.msl 2 1 p.2.1.length, .msl 3 1 p.2.2.1.length, .msl 4 1 p.2.2.2.1.length]]) (fun p => M.ref48_Fun_l2 fuel f1 p.1 p.2.1 p.2.2.1 p.2.2.2.1 p.2.2.2.2.1 p.2.2.2.2.2 = some o57) (fun p => p.1) (fuel, l41, l42, l43, false, 0) l58 (le_mkS (by simp)) ?_
      rintro ⟨k59, l51, l52, l53, changed54, at55⟩ l58
      try dsimp only at l58 ⊢
      cases k59 with
      | zero =>
        rw [M.ref48_Fun_l2] at l58; cases l58
      | succ k60 =>
        rw [M.ref48_Fun_l2] at l58
        refine awp_seq ?_
        refine cut 128 0 [(1, .mptr 0 0), (2, .mptr 1 0), (4, .int .i64 (f1.Code.length : Int)), (5, .mptr 5 0), (7, .bool changed54), (8, .int .i64 ((at55 : Nat) : Int)), (39, .bool (ltI ((at55 : Nat) : Int) (f1.Code.length : Int)))] [(Api.Fun.c f1), [.osl ⟨1, 4⟩ (([] : List Bool).map cB), .osl ⟨1, 3⟩ (([] : List Int).map (cI .i64)), .osl ⟨1, 28⟩ (([] : List (List Bool)).map (cL cB))], row cB l51, row (cI .i64) l52, row (cL cB) l53, [.msl 2 1 l51.length, .msl 3 1 l52.length, .msl 4 1 l53.length]] ?_ ?_
        · refine st ?_
          simp
        rcases sp l58 with ⟨g61, l58⟩ | ⟨g61, l58⟩
        · have c62 := ltT g61
          refine condT rfl g61 ?_
          refine factCL 0 3 rfl rfl rfl fun f63 => ?_
          rw [List.length_map] at f63
          refine awp_skip ?_
          refine seq_eq ?_
          refine awp_seq ?_
          refine awp_block ?_
          refine awp_seq ?_
          obtain ⟨u64, q65, l58⟩ := bs l58
          have q66 := ixC_ok q65
          have q67 := ixC_nat q65
          try simp at q66
          try simp at q67
          obtain ⟨x68, q69, l58⟩ := bs l58
          have q70 := row_drop1 rc_B q69
          have q71 := row_get1 rc_B q69
          have q72 := row_getE1 rc_B q69
          try simp at q70
          try simp at q71
          try simp at q72
          refine cut 128 0 [(1, .mptr 0 0), (2, .mptr 1 0), (4, .int .i64 (f1.Code.length : Int)), (5, .mptr 5 0), (7, .bool changed54), (8, .int .i64 ((at55 : Nat) : Int)), (47, .bool (!x68))] [(Api.Fun.c f1), [.osl ⟨1, 4⟩ (([] : List Bool).map cB), .osl ⟨1, 3⟩ (([] : List Int).map (cI .i64)), .osl ⟨1, 28⟩ (([] : List (List Bool)).map (cL cB))], row cB l51, row (cI .i64) l52, row (cL cB) l53, [.msl 2 1 l51.length, .msl 3 1 l52.length, .msl 4 1 l53.length]] ?_ ?_
          · refine st ?_
            simp [q66, q67, q69, q70, q71, q72]
          rcases sp l58 with ⟨g73, l58⟩ | ⟨g73, l58⟩
          · have g74 := notT g73
            refine condT rfl g73 ?_
            refine awp_exit ?_
            refine exit_seq ?_
            refine exit_blk ?_
            refine seq_eq ?_
            have q75 : Rng .i64 (((at55 : Nat) : Int) + 1) := by simp only [Rng, inR]; omega
            try simp at q75
            refine last 128 0 [(1, .mptr 0 0), (2, .mptr 1 0), (4, .int .i64 (f1.Code.length : Int)), (5, .mptr 5 0), (7, .bool changed54), (8, .int .i64 ((at55 + 1 : Nat) : Int))] [(Api.Fun.c f1), [.osl ⟨1, 4⟩ (([] : List Bool).map cB), .osl ⟨1, 3⟩ (([] : List Int).map (cI .i64)), .osl ⟨1, 28⟩ (([] : List (List Bool)).map (cL cB))], row cB l51, row (cI .i64) l52, row (cL cB) l53, [.msl 2 1 l51.length, .msl 3 1 l52.length, .msl 4 1 l53.length]] ?_ fun zz hs => ?_
            · refine st ?_
              simp [q75]
            exact ⟨(k60, l51, l52, l53, changed54, at55 + 1), hs, l58, by simp⟩
          have g76 := notF g73
          refine condF rfl g73 ?_
          refine awp_skip ?_
          refine seq_eq ?_
          obtain ⟨u77, q78, l58⟩ := bs l58
          have q79 := ixC_ok q78
          have q80 := ixC_nat q78
          try simp at q79
          try simp at q80
          obtain ⟨x81, q82, l58⟩ := bs l58
          have q83 := row_drop1 (rc_I .i64) q82
          have q84 := row_get1 (rc_I .i64) q82
          have q85 := row_getE1 (rc_I .i64) q82
          try simp at q83
          try simp at q84
          try simp at q85
          obtain ⟨u86, q87, l58⟩ := bs l58
          have q88 := ixC_ok q87
          have q89 := ixC_nat q87
          try simp at q88
          try simp at q89
          obtain ⟨x90, q91, l58⟩ := bs l58
          have q92 := row_drop1 (rc_L cB) q91
          have q93 := row_get1 (rc_L cB) q91
          have q94 := row_getE1 (rc_L cB) q91
          try simp at q92
          try simp at q93
          try simp at q94
          obtain ⟨v95, q96, l58⟩ := bs l58
          refine cut 128 0 [(1, .mptr 0 0), (2, .mptr 1 0), (4, .int .i64 (f1.Code.length : Int)), (5, .mptr 5 0), (7, .bool changed54), (8, .int .i64 ((at55 : Nat) : Int)), (9, .int .i64 v95.1), (10, .bool v95.2)] [(Api.Fun.c f1), [.osl ⟨1, 4⟩ (([] : List Bool).map cB), .osl ⟨1, 3⟩ (([] : List Int).map (cI .i64)), .osl ⟨1, 28⟩ (([] : List (List Bool)).map (cL cB))], row cB l51, row (cI .i64) l52, row (cL cB) l53, [.msl 2 1 l51.length, .msl 3 1 l52.length, .msl 4 1 l53.length]] ?_ ?_
          · refine awp_region_draw [] mixed (n := 128) rfl (by decide) ?_
            simp [q79, q80, q82, q83, q84, q85, q88, q89, q91, q92, q93, q94]
            have r163 := ref48_passes_ok f1 ((at55 : Nat) : Int) x81 x90 v95 q96
            try simp [q79, q80, q82, q83, q84, q85, q88, q89, q91, q92, q93, q94] at r163
            refine callD r163 (by simp) rfl ?_
            simp [q79, q80, q82, q83, q84, q85, q88, q89, q91, q92, q93, q94]
          obtain ⟨v97, q98, l58⟩ := bs l58
          refine cut 128 0 [(1, .mptr 0 0), (2, .mptr 1 0), (4, .int .i64 (f1.Code.length : Int)), (5, .mptr 5 0), (7, .bool changed54), (8, .int .i64 ((at55 : Nat) : Int)), (9, .int .i64 v95.1), (10, .bool v95.2), (11, .sl (v97.1.map (cI .i64))), (12, .int .i64 v97.2)] [(Api.Fun.c f1), [.osl ⟨1, 4⟩ (([] : List Bool).map cB), .osl ⟨1, 3⟩ (([] : List Int).map (cI .i64)), .osl ⟨1, 28⟩ (([] : List (List Bool)).map (cL cB))], row cB l51, row (cI .i64) l52, row (cL cB) l53, [.msl 2 1 l51.length, .msl 3 1 l52.length, .msl 4 1 l53.length]] ?_ ?_
          · refine st ?_
            simp
            have r162 := ref46_Targets_ok fuel f1 ((at55 : Nat) : Int) v97 q98
            try simp [] at r162
            refine callPure r162 (by simp) rfl ?_
            simp
          refine awp_seq ?_
          refine cut 128 0 [(1, .mptr 0 0), (2, .mptr 1 0), (4, .int .i64 (f1.Code.length : Int)), (5, .mptr 5 0), (7, .bool changed54), (8, .int .i64 ((at55 : Nat) : Int)), (9, .int .i64 v95.1), (11, .sl (v97.1.map (cI .i64))), (75, .bool ((!v95.2) || (!(eqI v97.2 0))))] [(Api.Fun.c f1), [.osl ⟨1, 4⟩ (([] : List Bool).map cB), .osl ⟨1, 3⟩ (([] : List Int).map (cI .i64)), .osl ⟨1, 28⟩ (([] : List (List Bool)).map (cL cB))], row cB l51, row (cI .i64) l52, row (cL cB) l53, [.msl 2 1 l51.length, .msl 3 1 l52.length, .msl 4 1 l53.length]] ?_ ?_
          · rcases tf (!v95.2) with g99 | g99
            · have g100 := notT g99
              refine st ?_
              simp [g99]
            have g101 := notF g99
            refine st ?_
            simp [g99]
          rcases sp l58 with ⟨g102, l58⟩ | ⟨g102, l58⟩
          · refine condT rfl g102 ?_
            refine cut 128 0 [(2, .mptr 1 0), (3, .bool false)] [(Api.Fun.c f1), [.osl ⟨1, 4⟩ (([] : List Bool).map cB), .osl ⟨1, 3⟩ (([] : List Int).map (cI .i64)), .osl ⟨1, 28⟩ (([] : List (List Bool)).map (cL cB))], row cB l51, row (cI .i64) l52, row (cL cB) l53, [.msl 2 1 l51.length, .msl 3 1 l52.length, .msl 4 1 l53.length]] ?_ ?_
            · refine st ?_
              simp
            refine awp_ret ?_
            refine ret_seq ?_
            refine ret_blk ?_
            refine ret_seq ?_
            replace l47 := retL l58 l47
            refine ret_seq ?_
            refine ret_blk ?_
            refine ret_blk ?_
            replace h := retL l47 h
            refine ret_seq ?_
            refine ret_blk ?_
            refine ret_seq ?_
            obtain rfl := oi h
            simp
          obtain ⟨g103, g104⟩ := orF g102
          have g105 := notF g103
          have g106 := notF g104
          have c107 := eqT g106
          refine condF rfl g102 ?_
          refine awp_skip ?_
          refine seq_eq ?_
          obtain ⟨x108, q109, l58⟩ := bs l58
          obtain ⟨u110, q111, l58⟩ := bs l58
          have q112 := ixC_ok q111
          have q113 := ixC_nat q111
          try simp at q112
          try simp at q113
          obtain ⟨x114, q115, l58⟩ := bs l58
          have q116 := row_drop1 (rc_L cB) q115
          have q117 := row_get1 (rc_L cB) q115
          have q118 := row_getE1 (rc_L cB) q115
          try simp at q116
          try simp at q117
          try simp at q118
          obtain ⟨v119, q120, l58⟩ := bs l58
          refine cut 128 0 [(1, .mptr 0 0), (2, .mptr 1 0), (4, .int .i64 (f1.Code.length : Int)), (5, .mptr 5 0), (7, .bool changed54), (8, .int .i64 ((at55 : Nat) : Int)), (9, .int .i64 v95.1), (11, .sl (v97.1.map (cI .i64))), (13, .sl (v119.map cB))] [(Api.Fun.c f1), [.osl ⟨1, 4⟩ (([] : List Bool).map cB), .osl ⟨1, 3⟩ (([] : List Int).map (cI .i64)), .osl ⟨1, 28⟩ (([] : List (List Bool)).map (cL cB))], row cB l51, row (cI .i64) l52, row (cL cB) l53, [.msl 2 1 l51.length, .msl 3 1 l52.length, .msl 4 1 l53.length]] ?_ ?_
          · refine awp_region_draw [] mixed (n := 128) rfl (by decide) ?_
            simp [q109, q112, q113, q115, q116, q117, q118]
            have r161 := ref48_after_ok x108 x114 v119 q120
            try simp [q109, q112, q113, q115, q116, q117, q118] at r161
            refine callD r161 (by simp) rfl ?_
            simp [q109, q112, q113, q115, q116, q117, q118]
          refine cut 128 0 [(1, .mptr 0 0), (2, .mptr 1 0), (4, .int .i64 (f1.Code.length : Int)), (5, .mptr 5 0), (7, .bool changed54), (8, .int .i64 ((at55 : Nat) : Int)), (9, .int .i64 v95.1), (11, .sl (v97.1.map (cI .i64))), (13, .sl (v119.map cB)), (14, .int .i64 0)] [(Api.Fun.c f1), [.osl ⟨1, 4⟩ (([] : List Bool).map cB), .osl ⟨1, 3⟩ (([] : List Int).map (cI .i64)), .osl ⟨1, 28⟩ (([] : List (List Bool)).map (cL cB))], row cB l51, row (cI .i64) l52, row (cL cB) l53, [.msl 2 1 l51.length, .msl 3 1 l52.length, .msl 4 1 l53.length]] ?_ ?_
          · refine st ?_
            simp
          refine awp_block ?_
          obtain ⟨o127, l128, l58⟩ := bs l58
          refine awp_inv (fun p : Nat × (List Bool) × (List Int) × (List (List Bool)) × Bool × Nat => mkS 128 0 [(1, .mptr 0 0), (2, .mptr 1 0), (4, .int .i64 (f1.Code.length : Int)), (5, .mptr 5 0), (7, .bool p.2.2.2.2.1), (8, .int .i64 ((at55 : Nat) : Int)), (9, .int .i64 v95.1), (11, .sl (v97.1.map (cI .i64))), (13, .sl (v119.map cB)), (14, .int .i64 ((p.2.2.2.2.2 : Nat) : Int))] [(Api.Fun.c f1), [.osl ⟨1, 4⟩ (([] : List Bool).map cB), .osl ⟨1, 3⟩ (([] : List Int).map (cI .i64)), .osl ⟨1, 28⟩ (([] : List (List Bool)).map (cL cB))], row cB p.2.1, row (cI .i64) p.2.2.1, row (cL cB) p.2.2.2.1, [.msl 2 1 p.2.1.length, .msl 3 1 p.2.2.1.length, .msl 4 1 p.2.2.2.1.length]]) (fun p => M.ref48_Fun_l3 fuel v95 v97 v119 p.1 p.2.1 p.2.2.1 p.2.2.2.1 p.2.2.2.2.1 p.2.2.2.2.2 = some o127) (fun p => p.1) (fuel, l51, l52, l53, changed54, 0) l128 (le_mkS (by simp)) ?_
          rintro ⟨k129, l121, l122, l123, changed124, k125⟩ l128
          try dsimp only at l128 ⊢
          cases k129 with
          | zero =>
            rw [M.ref48_Fun_l3] at l128; cases l128
          | succ k130 =>
            rw [M.ref48_Fun_l3] at l128
            refine awp_seq ?_
            refine cut 128 0 [(1, .mptr 0 0), (2, .mptr 1 0), (4, .int .i64 (f1.Code.length : Int)), (5, .mptr 5 0), (7, .bool changed124), (8, .int .i64 ((at55 : Nat) : Int)), (9, .int .i64 v95.1), (11, .sl (v97.1.map (cI .i64))), (13, .sl (v119.map cB)), (14, .int .i64 ((k125 : Nat) : Int)), (91, .bool (ltI ((k125 : Nat) : Int) (v97.1.length : Int)))] [(Api.Fun.c f1), [.osl ⟨1, 4⟩ (([] : List Bool).map cB), .osl ⟨1, 3⟩ (([] : List Int).map (cI .i64)), .osl ⟨1, 28⟩ (([] : List (List Bool)).map (cL cB))], row cB l121, row (cI .i64) l122, row (cL cB) l123, [.msl 2 1 l121.length, .msl 3 1 l122.length, .msl 4 1 l123.length]] ?_ ?_
            · refine st ?_
              simp
            rcases sp l128 with ⟨g131, l128⟩ | ⟨g131, l128⟩
            · have c132 := ltT g131
              refine condT rfl g131 ?_
              refine factL 11 rfl fun f133 => ?_
              rw [List.length_map] at f133
              refine awp_skip ?_
              refine seq_eq ?_
              refine awp_seq ?_
              refine awp_block ?_
              obtain ⟨x134, q135, l128⟩ := bs l128
              obtain ⟨v136, q137, l128⟩ := bs l128
              obtain ⟨u138, q139, l128⟩ := bs l128
              have q140 := lenC_ok q139
              obtain ⟨u141, q142, l128⟩ := bs l128
              have q143 := lenC_ok q142
              obtain ⟨u144, q145, l128⟩ := bs l128
              have q146 := lenC_ok q145
              refine cut 128 0 [(1, .mptr 0 0), (2, .mptr 1 0), (4, .int .i64 (f1.Code.length : Int)), (5, .mptr 5 0), (7, .bool changed124), (8, .int .i64 ((at55 : Nat) : Int)), (9, .int .i64 v95.1), (11, .sl (v97.1.map (cI .i64))), (13, .sl (v119.map cB)), (14, .int .i64 ((k125 : Nat) : Int)), (15, .bool v136.1), (16, .bool v136.2.1)] [(Api.Fun.c f1), [.osl ⟨1, 4⟩ (([] : List Bool).map cB), .osl ⟨1, 3⟩ (([] : List Int).map (cI .i64)), .osl ⟨1, 28⟩ (([] : List (List Bool)).map (cL cB))], row cB v136.2.2.1, row (cI .i64) v136.2.2.2.1, row (cL cB) v136.2.2.2.2, [.msl 2 1 v136.2.2.1.length, .msl 3 1 v136.2.2.2.1.length, .msl 4 1 v136.2.2.2.2.length]] ?_ ?_
              · refine awp_region_pin [] [7] mixed (n := 128) rfl (by decide) (by decide) ?_
                simp [q135, q140, q143, q146]
                have r152 := (ref48_meets_ok fuel x134 v95.1 v119 l121 l122 l123 v136 q137).frame [2, 3, 4] [[.int .i64 f1.Captures, .int .i64 f1.Locals, .int .i64 f1.Depth, .sl (f1.Code.map Api.Instr.c)], [.osl ⟨1, 4⟩ (([] : List Bool).map cB), .osl ⟨1, 3⟩ (([] : List Int).map (cI .i64)), .osl ⟨1, 28⟩ (([] : List (List Bool)).map (cL cB))], row cB l121, row (cI .i64) l122, row (cL cB) l123, [.msl 2 1 l121.length, .msl 3 1 l122.length, .msl 4 1 l123.length]] (by simp)
                try simp [q135, q140, q143, q146] at r152
                refine callX r152 (by simp [q135, q140, q143, q146]) rfl ?_
                simp [q135, q140, q143, q146]
              refine awp_seq ?_
              refine cut 128 0 [(1, .mptr 0 0), (2, .mptr 1 0), (4, .int .i64 (f1.Code.length : Int)), (5, .mptr 5 0), (7, .bool changed124), (8, .int .i64 ((at55 : Nat) : Int)), (9, .int .i64 v95.1), (11, .sl (v97.1.map (cI .i64))), (13, .sl (v119.map cB)), (14, .int .i64 ((k125 : Nat) : Int)), (16, .bool v136.2.1), (106, .bool (!v136.1))] [(Api.Fun.c f1), [.osl ⟨1, 4⟩ (([] : List Bool).map cB), .osl ⟨1, 3⟩ (([] : List Int).map (cI .i64)), .osl ⟨1, 28⟩ (([] : List (List Bool)).map (cL cB))], row cB v136.2.2.1, row (cI .i64) v136.2.2.2.1, row (cL cB) v136.2.2.2.2, [.msl 2 1 v136.2.2.1.length, .msl 3 1 v136.2.2.2.1.length, .msl 4 1 v136.2.2.2.2.length]] ?_ ?_
              · refine st ?_
                simp
              rcases sp l128 with ⟨g147, l128⟩ | ⟨g147, l128⟩
              · have g148 := notT g147
                refine condT rfl g147 ?_
                refine cut 128 0 [(2, .mptr 1 0), (3, .bool false)] [(Api.Fun.c f1), [.osl ⟨1, 4⟩ (([] : List Bool).map cB), .osl ⟨1, 3⟩ (([] : List Int).map (cI .i64)), .osl ⟨1, 28⟩ (([] : List (List Bool)).map (cL cB))], row cB v136.2.2.1, row (cI .i64) v136.2.2.2.1, row (cL cB) v136.2.2.2.2, [.msl 2 1 v136.2.2.1.length, .msl 3 1 v136.2.2.2.1.length, .msl 4 1 v136.2.2.2.2.length]] ?_ ?_
                · refine st ?_
                  simp
                refine awp_ret ?_
                refine ret_seq ?_
                refine ret_blk ?_
                refine ret_seq ?_
                replace l58 := retL l128 l58
                refine ret_seq ?_
                refine ret_blk ?_
                refine ret_blk ?_
                refine ret_seq ?_
                replace l47 := retL l58 l47
                refine ret_seq ?_
                refine ret_blk ?_
                refine ret_blk ?_
                replace h := retL l47 h
                refine ret_seq ?_
                refine ret_blk ?_
                refine ret_seq ?_
                obtain rfl := oi h
                simp
              have g149 := notF g147
              refine condF rfl g147 ?_
              refine awp_skip ?_
              refine seq_eq ?_
              refine last 128 0 [(1, .mptr 0 0), (2, .mptr 1 0), (4, .int .i64 (f1.Code.length : Int)), (5, .mptr 5 0), (7, .bool (changed124 || v136.2.1)), (8, .int .i64 ((at55 : Nat) : Int)), (9, .int .i64 v95.1), (11, .sl (v97.1.map (cI .i64))), (13, .sl (v119.map cB)), (14, .int .i64 ((k125 : Nat) : Int))] [(Api.Fun.c f1), [.osl ⟨1, 4⟩ (([] : List Bool).map cB), .osl ⟨1, 3⟩ (([] : List Int).map (cI .i64)), .osl ⟨1, 28⟩ (([] : List (List Bool)).map (cL cB))], row cB v136.2.2.1, row (cI .i64) v136.2.2.2.1, row (cL cB) v136.2.2.2.2, [.msl 2 1 v136.2.2.1.length, .msl 3 1 v136.2.2.2.1.length, .msl 4 1 v136.2.2.2.2.length]] ?_ fun zz hs => ?_
              · rcases tf (changed124) with g150 | g150
                · refine st ?_
                  simp [g150]
                refine st ?_
                simp [g150]
              refine blk_n ?_
              refine seq_le ?_ hs
              have q151 : Rng .i64 (((k125 : Nat) : Int) + 1) := by simp only [Rng, inR]; omega
              try simp at q151
              refine last 128 0 [(1, .mptr 0 0), (2, .mptr 1 0), (4, .int .i64 (f1.Code.length : Int)), (5, .mptr 5 0), (7, .bool (changed124 || v136.2.1)), (8, .int .i64 ((at55 : Nat) : Int)), (9, .int .i64 v95.1), (11, .sl (v97.1.map (cI .i64))), (13, .sl (v119.map cB)), (14, .int .i64 ((k125 + 1 : Nat) : Int))] [(Api.Fun.c f1), [.osl ⟨1, 4⟩ (([] : List Bool).map cB), .osl ⟨1, 3⟩ (([] : List Int).map (cI .i64)), .osl ⟨1, 28⟩ (([] : List (List Bool)).map (cL cB))], row cB v136.2.2.1, row (cI .i64) v136.2.2.2.1, row (cL cB) v136.2.2.2.2, [.msl 2 1 v136.2.2.1.length, .msl 3 1 v136.2.2.2.1.length, .msl 4 1 v136.2.2.2.2.length]] ?_ fun zz hs => ?_
              · refine st ?_
                simp [q151]
              exact ⟨(k130, v136.2.2.1, v136.2.2.2.1, v136.2.2.2.2, changed124 || v136.2.1, k125 + 1), hs, l128, by simp⟩
            have c153 := ltF g131
            refine condF rfl g131 ?_
            refine factL 11 rfl fun f154 => ?_
            rw [List.length_map] at f154
            refine awp_exit ?_
            refine exit_seq ?_
            rcases o127 with o127 | o126
            · cases l128
            have q155 := Sum.inr.inj (Option.some.inj l128)
            replace l58 := elimR l58
            have q156 : o126.1 = changed124 := by rw [← q155]
            have q157 : o126.2.1 = l121 := by rw [← q155]
            have q158 : o126.2.2.1 = l122 := by rw [← q155]
            have q159 : o126.2.2.2 = l123 := by rw [← q155]
            refine exit_seq ?_
            refine exit_blk ?_
            refine blk_n ?_
            refine seq_le (t := mkS 128 0 [(1, .mptr 0 0), (2, .mptr 1 0), (4, .int .i64 (f1.Code.length : Int)), (5, .mptr 5 0), (7, .bool o126.1), (8, .int .i64 ((at55 : Nat) : Int))] [(Api.Fun.c f1), [.osl ⟨1, 4⟩ (([] : List Bool).map cB), .osl ⟨1, 3⟩ (([] : List Int).map (cI .i64)), .osl ⟨1, 28⟩ (([] : List (List Bool)).map (cL cB))], row cB o126.2.1, row (cI .i64) o126.2.2.1, row (cL cB) o126.2.2.2, [.msl 2 1 o126.2.1.length, .msl 3 1 o126.2.2.1.length, .msl 4 1 o126.2.2.2.length]]) ?_ (le_mkS (by simp [q156, q157, q158, q159]))
            have q160 : Rng .i64 (((at55 : Nat) : Int) + 1) := by simp only [Rng, inR]; omega
            try simp at q160
            refine last 128 0 [(1, .mptr 0 0), (2, .mptr 1 0), (4, .int .i64 (f1.Code.length : Int)), (5, .mptr 5 0), (7, .bool o126.1), (8, .int .i64 ((at55 + 1 : Nat) : Int))] [(Api.Fun.c f1), [.osl ⟨1, 4⟩ (([] : List Bool).map cB), .osl ⟨1, 3⟩ (([] : List Int).map (cI .i64)), .osl ⟨1, 28⟩ (([] : List (List Bool)).map (cL cB))], row cB o126.2.1, row (cI .i64) o126.2.2.1, row (cL cB) o126.2.2.2, [.msl 2 1 o126.2.1.length, .msl 3 1 o126.2.2.1.length, .msl 4 1 o126.2.2.2.length]] ?_ fun zz hs => ?_
            · refine st ?_
              simp [q160]
            exact ⟨(k60, o126.2.1, o126.2.2.1, o126.2.2.2, o126.1, at55 + 1), hs, l58, by simp⟩
        have c164 := ltF g61
        refine condF rfl g61 ?_
        refine factCL 0 3 rfl rfl rfl fun f165 => ?_
        rw [List.length_map] at f165
        refine awp_exit ?_
        refine exit_seq ?_
        rcases o57 with o57 | o56
        · cases l58
        have q166 := Sum.inr.inj (Option.some.inj l58)
        replace l47 := elimR l47
        have q167 : o56.1 = changed54 := by rw [← q166]
        have q168 : o56.2.1 = l51 := by rw [← q166]
        have q169 : o56.2.2.1 = l52 := by rw [← q166]
        have q170 : o56.2.2.2 = l53 := by rw [← q166]
        refine exit_seq ?_
        refine exit_blk ?_
        refine blk_n ?_
        exact ⟨(k49, o56.2.1, o56.2.2.1, o56.2.2.2, o56.1), le_mkS (by simp [q167, q168, q169, q170]), l47, by simp⟩
    refine condF rfl g50 ?_
    refine awp_exit ?_
    refine exit_seq ?_
    rcases o46 with o46 | o45
    · cases l47
    have q171 := Sum.inr.inj (Option.some.inj l47)
    replace h := elimR h
    have q172 : o45.1 = l41 := by rw [← q171]
    have q173 : o45.2.1 = l42 := by rw [← q171]
    have q174 : o45.2.2 = l43 := by rw [← q171]
    refine exit_seq ?_
    refine exit_blk ?_
    refine seq_le (t := mkS 128 0 [(2, .mptr 1 0), (4, .int .i64 (f1.Code.length : Int)), (5, .mptr 5 0)] [(Api.Fun.c f1), [.osl ⟨1, 4⟩ (([] : List Bool).map cB), .osl ⟨1, 3⟩ (([] : List Int).map (cI .i64)), .osl ⟨1, 28⟩ (([] : List (List Bool)).map (cL cB))], row cB o45.1, row (cI .i64) o45.2.1, row (cL cB) o45.2.2, [.msl 2 1 o45.1.length, .msl 3 1 o45.2.1.length, .msl 4 1 o45.2.2.length]]) ?_ (le_mkS (by simp [q172, q173, q174]))
    refine awp_seq ?_
    refine cut 128 0 [(2, .mptr 1 0), (4, .int .i64 (f1.Code.length : Int)), (5, .mptr 5 0), (17, .int .i64 0)] [(Api.Fun.c f1), [.osl ⟨1, 4⟩ (([] : List Bool).map cB), .osl ⟨1, 3⟩ (([] : List Int).map (cI .i64)), .osl ⟨1, 28⟩ (([] : List (List Bool)).map (cL cB))], row cB o45.1, row (cI .i64) o45.2.1, row (cL cB) o45.2.2, [.msl 2 1 o45.1.length, .msl 3 1 o45.2.1.length, .msl 4 1 o45.2.2.length]] ?_ ?_
    · refine st ?_
      simp
    refine awp_block ?_
    obtain ⟨o177, l178, h⟩ := bs h
    refine awp_inv (fun p : Nat × (List Int) × Nat => mkS 128 0 [(2, .mptr 1 0), (4, .int .i64 (f1.Code.length : Int)), (5, .mptr 5 0), (17, .int .i64 ((p.2.2 : Nat) : Int))] [(Api.Fun.c f1), [.osl ⟨1, 4⟩ (([] : List Bool).map cB), .osl ⟨1, 3⟩ (([] : List Int).map (cI .i64)), .osl ⟨1, 28⟩ (([] : List (List Bool)).map (cL cB))], row cB o45.1, row (cI .i64) p.2.1, row (cL cB) o45.2.2, [.msl 2 1 o45.1.length, .msl 3 1 p.2.1.length, .msl 4 1 o45.2.2.length]]) (fun p => M.ref48_Fun_l4 f1 o45 p.1 p.2.1 p.2.2 = some o177) (fun p => p.1) (fuel, o45.2.1, 0) l178 (le_mkS (by simp)) ?_
    rintro ⟨k179, l175, at176⟩ l178
    try dsimp only at l178 ⊢
    cases k179 with
    | zero =>
      rw [M.ref48_Fun_l4] at l178; cases l178
    | succ k180 =>
      rw [M.ref48_Fun_l4] at l178
      refine awp_seq ?_
      refine cut 128 0 [(2, .mptr 1 0), (4, .int .i64 (f1.Code.length : Int)), (5, .mptr 5 0), (17, .int .i64 ((at176 : Nat) : Int)), (114, .bool (ltI ((at176 : Nat) : Int) (f1.Code.length : Int)))] [(Api.Fun.c f1), [.osl ⟨1, 4⟩ (([] : List Bool).map cB), .osl ⟨1, 3⟩ (([] : List Int).map (cI .i64)), .osl ⟨1, 28⟩ (([] : List (List Bool)).map (cL cB))], row cB o45.1, row (cI .i64) l175, row (cL cB) o45.2.2, [.msl 2 1 o45.1.length, .msl 3 1 l175.length, .msl 4 1 o45.2.2.length]] ?_ ?_
      · refine st ?_
        simp
      rcases sp l178 with ⟨g181, l178⟩ | ⟨g181, l178⟩
      · have c182 := ltT g181
        refine condT rfl g181 ?_
        refine factCL 0 3 rfl rfl rfl fun f183 => ?_
        rw [List.length_map] at f183
        refine awp_skip ?_
        refine seq_eq ?_
        refine awp_seq ?_
        refine awp_block ?_
        obtain ⟨u184, q185, l178⟩ := bs l178
        have q186 := ixC_ok q185
        have q187 := ixC_nat q185
        try simp at q186
        try simp at q187
        obtain ⟨x188, q189, l178⟩ := bs l178
        have q190 := row_drop1 rc_B q189
        have q191 := row_get1 rc_B q189
        have q192 := row_getE1 rc_B q189
        try simp at q190
        try simp at q191
        try simp at q192
        refine cut 128 0 [(2, .mptr 1 0), (4, .int .i64 (f1.Code.length : Int)), (5, .mptr 5 0), (17, .int .i64 ((at176 : Nat) : Int)), (122, .bool (!x188))] [(Api.Fun.c f1), [.osl ⟨1, 4⟩ (([] : List Bool).map cB), .osl ⟨1, 3⟩ (([] : List Int).map (cI .i64)), .osl ⟨1, 28⟩ (([] : List (List Bool)).map (cL cB))], row cB o45.1, row (cI .i64) l175, row (cL cB) o45.2.2, [.msl 2 1 o45.1.length, .msl 3 1 l175.length, .msl 4 1 o45.2.2.length]] ?_ ?_
        · refine st ?_
          simp [q186, q187, q189, q190, q191, q192]
        rcases sp l178 with ⟨g193, l178⟩ | ⟨g193, l178⟩
        · have g194 := notT g193
          refine condT rfl g193 ?_
          obtain ⟨u195, q196, l178⟩ := bs l178
          have q197 := ixC_ok q196
          have q198 := ixC_nat q196
          try simp at q197
          try simp at q198
          refine last 128 0 [(2, .mptr 1 0), (4, .int .i64 (f1.Code.length : Int)), (5, .mptr 5 0), (17, .int .i64 ((at176 : Nat) : Int))] [(Api.Fun.c f1), [.osl ⟨1, 4⟩ (([] : List Bool).map cB), .osl ⟨1, 3⟩ (([] : List Int).map (cI .i64)), .osl ⟨1, 28⟩ (([] : List (List Bool)).map (cL cB))], row cB o45.1, row (cI .i64) (l175.set at176 (-1)), row (cL cB) o45.2.2, [.msl 2 1 o45.1.length, .msl 3 1 ((l175.set at176 (-1)).length), .msl 4 1 o45.2.2.length]] ?_ fun zz hs => ?_
          · refine st ?_
            simp [q197, q198]
          refine blk_n ?_
          refine seq_le ?_ hs
          have q199 : Rng .i64 (((at176 : Nat) : Int) + 1) := by simp only [Rng, inR]; omega
          try simp at q199
          refine last 128 0 [(2, .mptr 1 0), (4, .int .i64 (f1.Code.length : Int)), (5, .mptr 5 0), (17, .int .i64 ((at176 + 1 : Nat) : Int))] [(Api.Fun.c f1), [.osl ⟨1, 4⟩ (([] : List Bool).map cB), .osl ⟨1, 3⟩ (([] : List Int).map (cI .i64)), .osl ⟨1, 28⟩ (([] : List (List Bool)).map (cL cB))], row cB o45.1, row (cI .i64) (l175.set at176 (-1)), row (cL cB) o45.2.2, [.msl 2 1 o45.1.length, .msl 3 1 ((l175.set at176 (-1)).length), .msl 4 1 o45.2.2.length]] ?_ fun zz hs => ?_
          · refine st ?_
            simp [q199]
          exact ⟨(k180, l175.set at176 (-1), at176 + 1), hs, l178, by simp⟩
        have g200 := notF g193
        refine condF rfl g193 ?_
        refine awp_skip ?_
        refine blk_n ?_
        refine seq_eq ?_
        have q201 : Rng .i64 (((at176 : Nat) : Int) + 1) := by simp only [Rng, inR]; omega
        try simp at q201
        refine last 128 0 [(2, .mptr 1 0), (4, .int .i64 (f1.Code.length : Int)), (5, .mptr 5 0), (17, .int .i64 ((at176 + 1 : Nat) : Int))] [(Api.Fun.c f1), [.osl ⟨1, 4⟩ (([] : List Bool).map cB), .osl ⟨1, 3⟩ (([] : List Int).map (cI .i64)), .osl ⟨1, 28⟩ (([] : List (List Bool)).map (cL cB))], row cB o45.1, row (cI .i64) l175, row (cL cB) o45.2.2, [.msl 2 1 o45.1.length, .msl 3 1 l175.length, .msl 4 1 o45.2.2.length]] ?_ fun zz hs => ?_
        · refine st ?_
          simp [q201]
        exact ⟨(k180, l175, at176 + 1), hs, l178, by simp⟩
      have c202 := ltF g181
      refine condF rfl g181 ?_
      refine factCL 0 3 rfl rfl rfl fun f203 => ?_
      rw [List.length_map] at f203
      refine awp_exit ?_
      refine exit_seq ?_
      have q204 := Option.some.inj l178
      have q204 := q204.symm
      refine exit_seq ?_
      refine exit_blk ?_
      refine seq_le (t := mkS 128 0 [(2, .mptr 1 0), (5, .mptr 5 0)] [(Api.Fun.c f1), [.osl ⟨1, 4⟩ (([] : List Bool).map cB), .osl ⟨1, 3⟩ (([] : List Int).map (cI .i64)), .osl ⟨1, 28⟩ (([] : List (List Bool)).map (cL cB))], row cB o45.1, row (cI .i64) o177, row (cL cB) o45.2.2, [.msl 2 1 o45.1.length, .msl 3 1 o177.length, .msl 4 1 o45.2.2.length]]) ?_ (le_mkS (by simp [q204]))
      refine cut 128 0 [(2, .mptr 1 0), (3, .bool true)] [(Api.Fun.c f1), [.msl 2 1 o45.1.length, .msl 3 1 o177.length, .msl 4 1 o45.2.2.length], row cB o45.1, row (cI .i64) o177, row (cL cB) o45.2.2, [.msl 2 1 o45.1.length, .msl 3 1 o177.length, .msl 4 1 o45.2.2.length]] ?_ ?_
      · refine st ?_
        simp
      refine awp_ret ?_
      obtain rfl := oi h
      simp
end Go.Proofs.Ythbjlmoaceaeeaa
set_option linter.unusedVariables false
set_option linter.unusedSimpArgs false
set_option maxRecDepth 100000
set_option maxHeartbeats 1000000
namespace Go.Proofs.Ythbjlmoaceaeeaa
open Go Go.Abs
theorem ref48_Of_ok (fuel : Nat) (p1 : Api.Program) (n2 : Int) (r : Ref48.States × Int) (h : M.ref48_Of fuel p1 n2 = some r) : Pure Try.prog 15 [.agg [.sl (p1.Funs.map Api.Fun.c), .sl (p1.Texts.map cS), .int .i64 p1.Main], .int .i64 n2] (.tup [.agg [.sl (r.1.Reached.map cB), .sl (r.1.Depths.map (cI .i64)), .sl (r.1.Set.map (cL cB))], .int .i64 r.2]) := by
  rw [M.ref48_Of] at h
  refine pure_of_body Try.func15 (by rfl) (by rfl) (by simp) (by simp) (by simp) ?_
  refine cut 35 0 [(1, .int .i64 n2), (2, .mptr 0 0), (4, .mptr 1 0)] [(Api.Program.c p1), [.osl ⟨1, 4⟩ (([] : List Bool).map cB), .osl ⟨1, 3⟩ (([] : List Int).map (cI .i64)), .osl ⟨1, 28⟩ (([] : List (List Bool)).map (cL cB))]] ?_ ?_
  · refine st ?_
    simp
  refine awp_seq ?_
  obtain ⟨v3, q4, h⟩ := bs h
  refine cut 35 0 [(1, .int .i64 n2), (2, .mptr 0 0), (4, .mptr 1 0), (10, .bool (!v3))] [(Api.Program.c p1), [.osl ⟨1, 4⟩ (([] : List Bool).map cB), .osl ⟨1, 3⟩ (([] : List Int).map (cI .i64)), .osl ⟨1, 28⟩ (([] : List (List Bool)).map (cL cB))]] ?_ ?_
  · refine st ?_
    simp
    have r27 := ref46_Valid_ok fuel p1 v3 q4
    try simp [] at r27
    refine callPure r27 (by simp) rfl ?_
    simp
  rcases sp h with ⟨g5, h⟩ | ⟨g5, h⟩
  · have g6 := notT g5
    refine condT rfl g5 ?_
    refine cut 35 0 [(4, .mptr 1 0), (5, .int .i64 1)] [(Api.Program.c p1), [.osl ⟨1, 4⟩ (([] : List Bool).map cB), .osl ⟨1, 3⟩ (([] : List Int).map (cI .i64)), .osl ⟨1, 28⟩ (([] : List (List Bool)).map (cL cB))]] ?_ ?_
    · refine st ?_
      simp
    refine awp_ret ?_
    refine ret_seq ?_
    obtain rfl := oi h
    simp
  have g7 := notF g5
  refine condF rfl g5 ?_
  refine awp_skip ?_
  refine seq_eq ?_
  refine awp_seq ?_
  refine cut 35 0 [(1, .int .i64 n2), (2, .mptr 0 0), (4, .mptr 1 0), (20, .bool ((ltI n2 0) || (leI (p1.Funs.length : Int) n2)))] [(Api.Program.c p1), [.osl ⟨1, 4⟩ (([] : List Bool).map cB), .osl ⟨1, 3⟩ (([] : List Int).map (cI .i64)), .osl ⟨1, 28⟩ (([] : List (List Bool)).map (cL cB))]] ?_ ?_
  · rcases tf (ltI n2 0) with g8 | g8
    · have c9 := ltT g8
      refine st ?_
      simp [g8]
    have c10 := ltF g8
    refine st ?_
    simp [g8]
  rcases sp h with ⟨g11, h⟩ | ⟨g11, h⟩
  · refine condT rfl g11 ?_
    refine cut 35 0 [(4, .mptr 1 0), (5, .int .i64 2)] [(Api.Program.c p1), [.osl ⟨1, 4⟩ (([] : List Bool).map cB), .osl ⟨1, 3⟩ (([] : List Int).map (cI .i64)), .osl ⟨1, 28⟩ (([] : List (List Bool)).map (cL cB))]] ?_ ?_
    · refine st ?_
      simp
    refine awp_ret ?_
    refine ret_seq ?_
    obtain rfl := oi h
    simp
  obtain ⟨g12, g13⟩ := orF g11
  have c14 := ltF g12
  have c15 := leF g13
  refine condF rfl g11 ?_
  refine factCL 0 0 rfl rfl rfl fun f16 => ?_
  rw [List.length_map] at f16
  refine awp_skip ?_
  refine seq_eq ?_
  obtain ⟨x17, q18, h⟩ := bs h
  obtain ⟨q19, q20⟩ := idx_ok q18
  obtain ⟨v21, q22, h⟩ := bs h
  refine cut 35 0 [(4, .mptr 1 0), (6, .mptr 2 0), (7, .bool v21.2)] [(Api.Program.c p1), [.osl ⟨1, 4⟩ (([] : List Bool).map cB), .osl ⟨1, 3⟩ (([] : List Int).map (cI .i64)), .osl ⟨1, 28⟩ (([] : List (List Bool)).map (cL cB))], (Ref48.States.c v21.1)] ?_ ?_
  · refine st ?_
    simp [q19, q20]
    have r26 := ref48_Fun_ok fuel x17 v21 q22
    try simp [q19, q20] at r26
    refine callPure r26 (by simp) rfl ?_
    simp [q19, q20]
  refine awp_seq ?_
  refine cut 35 0 [(4, .mptr 1 0), (6, .mptr 2 0), (32, .bool (!v21.2))] [(Api.Program.c p1), [.osl ⟨1, 4⟩ (([] : List Bool).map cB), .osl ⟨1, 3⟩ (([] : List Int).map (cI .i64)), .osl ⟨1, 28⟩ (([] : List (List Bool)).map (cL cB))], (Ref48.States.c v21.1)] ?_ ?_
  · refine st ?_
    simp
  rcases sp h with ⟨g23, h⟩ | ⟨g23, h⟩
  · have g24 := notT g23
    refine condT rfl g23 ?_
    refine cut 35 0 [(4, .mptr 1 0), (5, .int .i64 24)] [(Api.Program.c p1), [.osl ⟨1, 4⟩ (([] : List Bool).map cB), .osl ⟨1, 3⟩ (([] : List Int).map (cI .i64)), .osl ⟨1, 28⟩ (([] : List (List Bool)).map (cL cB))], (Ref48.States.c v21.1)] ?_ ?_
    · refine st ?_
      simp
    refine awp_ret ?_
    refine ret_seq ?_
    obtain rfl := oi h
    simp
  have g25 := notF g23
  refine condF rfl g23 ?_
  refine awp_skip ?_
  refine seq_eq ?_
  refine cut 35 0 [(4, .mptr 1 0), (5, .int .i64 0)] [(Api.Program.c p1), (Ref48.States.c v21.1), (Ref48.States.c v21.1)] ?_ ?_
  · refine st ?_
    simp
  refine awp_ret ?_
  obtain rfl := oi h
  simp
end Go.Proofs.Ythbjlmoaceaeeaa
set_option linter.unusedVariables false
set_option linter.unusedSimpArgs false
set_option maxRecDepth 100000
set_option maxHeartbeats 1000000
namespace Go.Proofs.Ythbjlmoaceaeeaa
open Go Go.Abs
theorem ref48_Check_ok (fuel : Nat) (p1 : Api.Program) (r : Int) (h : M.ref48_Check fuel p1 = some r) : Pure Try.prog 17 [.agg [.sl (p1.Funs.map Api.Fun.c), .sl (p1.Texts.map cS), .int .i64 p1.Main]] (.int .i64 r) := by
  rw [M.ref48_Check] at h
  refine pure_of_body Try.func17 (by rfl) (by rfl) (by simp) (by simp) (by simp) ?_
  refine cut 27 0 [(1, .mptr 0 0)] [(Api.Program.c p1)] ?_ ?_
  · refine st ?_
    simp
  refine awp_seq ?_
  obtain ⟨v2, q3, h⟩ := bs h
  refine cut 27 0 [(1, .mptr 0 0), (8, .bool (!v2))] [(Api.Program.c p1)] ?_ ?_
  · refine st ?_
    simp
    have r28 := ref46_Valid_ok fuel p1 v2 q3
    try simp [] at r28
    refine callPure r28 (by simp) rfl ?_
    simp
  rcases sp h with ⟨g4, h⟩ | ⟨g4, h⟩
  · have g5 := notT g4
    refine condT rfl g4 ?_
    refine cut 27 0 [(2, .int .i64 1)] [(Api.Program.c p1)] ?_ ?_
    · refine st ?_
      simp
    refine awp_ret ?_
    refine ret_seq ?_
    obtain rfl := oi h
    simp
  have g6 := notF g4
  refine condF rfl g4 ?_
  refine awp_skip ?_
  refine seq_eq ?_
  refine awp_seq ?_
  refine cut 27 0 [(1, .mptr 0 0), (3, .int .i64 0)] [(Api.Program.c p1)] ?_ ?_
  · refine st ?_
    simp
  refine awp_block ?_
  obtain ⟨o9, l10, h⟩ := bs h
  refine awp_inv (fun p : Nat × Nat => mkS 27 0 [(1, .mptr 0 0), (3, .int .i64 ((p.2 : Nat) : Int))] [(Api.Program.c p1)]) (fun p => M.ref48_Check_l1 fuel p1 p.1 p.2 = some o9) (fun p => p.1) (fuel, 0) l10 (le_mkS (by simp)) ?_
  rintro ⟨k11, n7⟩ l10
  try dsimp only at l10 ⊢
  cases k11 with
  | zero =>
    rw [M.ref48_Check_l1] at l10; cases l10
  | succ k12 =>
    rw [M.ref48_Check_l1] at l10
    refine awp_seq ?_
    refine cut 27 0 [(1, .mptr 0 0), (3, .int .i64 ((n7 : Nat) : Int)), (13, .bool (ltI ((n7 : Nat) : Int) (p1.Funs.length : Int)))] [(Api.Program.c p1)] ?_ ?_
    · refine st ?_
      simp
    rcases sp l10 with ⟨g13, l10⟩ | ⟨g13, l10⟩
    · have c14 := ltT g13
      refine condT rfl g13 ?_
      refine factCL 0 0 rfl rfl rfl fun f15 => ?_
      rw [List.length_map] at f15
      refine awp_skip ?_
      refine seq_eq ?_
      refine awp_seq ?_
      refine awp_block ?_
      obtain ⟨x16, q17, l10⟩ := bs l10
      obtain ⟨v18, q19, l10⟩ := bs l10
      refine cut 27 0 [(1, .mptr 0 0), (3, .int .i64 ((n7 : Nat) : Int)), (5, .bool v18.2)] [(Api.Program.c p1), (Ref48.States.c v18.1)] ?_ ?_
      · refine st ?_
        simp [q17]
        have r24 := ref48_Fun_ok fuel x16 v18 q19
        try simp [q17] at r24
        refine callPure r24 (by simp) rfl ?_
        simp [q17]
      refine cut 27 0 [(1, .mptr 0 0), (3, .int .i64 ((n7 : Nat) : Int)), (26, .bool (!v18.2))] [(Api.Program.c p1), (Ref48.States.c v18.1)] ?_ ?_
      · refine st ?_
        simp
      rcases sp l10 with ⟨g20, l10⟩ | ⟨g20, l10⟩
      · have g21 := notT g20
        refine condT rfl g20 ?_
        refine cut 27 0 [(2, .int .i64 24)] [(Api.Program.c p1), (Ref48.States.c v18.1)] ?_ ?_
        · refine st ?_
          simp
        refine awp_ret ?_
        refine ret_blk ?_
        refine ret_seq ?_
        replace h := retL l10 h
        refine ret_seq ?_
        refine ret_blk ?_
        refine ret_seq ?_
        obtain rfl := oi h
        simp
      have g22 := notF g20
      refine condF rfl g20 ?_
      refine awp_skip ?_
      refine blk_n ?_
      refine seq_eq ?_
      have q23 : Rng .i64 (((n7 : Nat) : Int) + 1) := by simp only [Rng, inR]; omega
      try simp at q23
      refine last 27 0 [(1, .mptr 0 0), (3, .int .i64 ((n7 + 1 : Nat) : Int))] [(Api.Program.c p1)] ?_ fun zz hs => ?_
      · refine st ?_
        simp [q23]
      exact ⟨(k12, n7 + 1), hs, l10, by simp⟩
    have c25 := ltF g13
    refine condF rfl g13 ?_
    refine factCL 0 0 rfl rfl rfl fun f26 => ?_
    rw [List.length_map] at f26
    refine awp_exit ?_
    refine exit_seq ?_
    rcases o9 with o9 | o8
    · cases l10
    have q27 := Sum.inr.inj (Option.some.inj l10)
    replace h := elimR h
    refine exit_seq ?_
    refine exit_blk ?_
    refine seq_le (t := mkS 27 0 [] [(Api.Program.c p1)]) ?_ (le_mkS (by simp []))
    refine cut 27 0 [(2, .int .i64 0)] [(Api.Program.c p1)] ?_ ?_
    · refine st ?_
      simp
    refine awp_ret ?_
    obtain rfl := oi h
    simp
end Go.Proofs.Ythbjlmoaceaeeaa
set_option linter.unusedVariables false
set_option linter.unusedSimpArgs false
set_option maxRecDepth 100000
set_option maxHeartbeats 1000000
namespace Go.Proofs.Ythbjlmoaceaeeaa
open Go Go.Abs
theorem law48_VerifyChecks_ok (fuel : Nat) (p1 : Api.Program) (n2 : Int) (r : Bool) (h : M.law48_VerifyChecks fuel p1 n2 = some r) : Pure Try.prog 3 [.agg [.sl (p1.Funs.map Api.Fun.c), .sl (p1.Texts.map cS), .int .i64 p1.Main], .int .i64 n2] (.bool r) := by
  rw [M.law48_VerifyChecks] at h
  refine pure_of_body Try.func3 (by rfl) (by rfl) (by simp) (by simp) (by simp) ?_
  refine cut 29 0 [(1, .int .i64 n2), (2, .mptr 0 0)] [(Api.Program.c p1)] ?_ ?_
  · refine st ?_
    simp
  refine awp_seq ?_
  obtain ⟨v3, q4, h⟩ := bs h
  refine cut 29 0 [(1, .int .i64 n2), (2, .mptr 0 0), (8, .bool (!v3))] [(Api.Program.c p1)] ?_ ?_
  · refine st ?_
    simp
    have r31 := law48_awake_ok fuel v3 q4
    try simp [] at r31
    refine callPure r31 (by simp) rfl ?_
    simp
  rcases sp h with ⟨g5, h⟩ | ⟨g5, h⟩
  · have g6 := notT g5
    refine condT rfl g5 ?_
    refine cut 29 0 [(4, .bool false)] [(Api.Program.c p1)] ?_ ?_
    · refine st ?_
      simp
    refine awp_ret ?_
    refine ret_seq ?_
    obtain rfl := oi h
    simp
  have g7 := notF g5
  refine condF rfl g5 ?_
  refine awp_skip ?_
  refine seq_eq ?_
  refine awp_seq ?_
  obtain ⟨v8, q9, h⟩ := bs h
  refine cut 29 0 [(1, .int .i64 n2), (2, .mptr 0 0), (10, .bool v8)] [(Api.Program.c p1)] ?_ ?_
  · refine st ?_
    simp
    have r30 := law48_big_ok fuel p1 v8 q9
    try simp [] at r30
    refine callPure r30 (by simp) rfl ?_
    simp
  rcases sp h with ⟨g10, h⟩ | ⟨g10, h⟩
  · refine condT rfl g10 ?_
    refine cut 29 0 [(4, .bool true)] [(Api.Program.c p1)] ?_ ?_
    · refine st ?_
      simp
    refine awp_ret ?_
    refine ret_seq ?_
    obtain rfl := oi h
    simp
  refine condF rfl g10 ?_
  refine awp_skip ?_
  refine seq_eq ?_
  obtain ⟨v11, q12, h⟩ := bs h
  refine cut 29 0 [(1, .int .i64 n2), (2, .mptr 0 0), (6, .int .i64 v11.2)] [(Api.Program.c p1), (Ref48.States.c v11.1)] ?_ ?_
  · refine st ?_
    simp
    have r29 := ref48_Of_ok fuel p1 n2 v11 q12
    try simp [] at r29
    refine callPure r29 (by simp) rfl ?_
    simp
  obtain ⟨b22, q23, h⟩ := bs h
  refine cut 29 0 [(4, .bool b22)] [(Api.Program.c p1), (Ref48.States.c v11.1)] ?_ ?_
  · obtain ⟨v13, q14, q23⟩ := bs q23
    obtain ⟨v15, q16, q23⟩ := bs q23
    rcases sp q23 with ⟨g17, q23⟩ | ⟨g17, q23⟩
    · have c18 := eqT g17
      obtain ⟨v19, q20, q23⟩ := bs q23
      obtain rfl := oi q23
      refine awp_region_draw [] mixed (n := 29) rfl (by decide) ?_
      simp [g17]
      have r24 := verify_Check_ok fuel p1 v13 q14
      try simp [g17] at r24
      refine callD r24 (by simp) rfl ?_
      simp [g17]
      have r25 := ref48_Check_ok fuel p1 v15 q16
      try simp [g17] at r25
      refine callD r25 (by simp) rfl ?_
      simp [g17]
      have r26 := verify_Fun_ok fuel p1 n2 v19 q20
      try simp [g17] at r26
      refine callD r26 (by simp) rfl ?_
      simp [g17]
    have c21 := eqF g17
    obtain rfl := oi q23
    refine awp_region_draw [] mixed (n := 29) rfl (by decide) ?_
    simp [g17]
    have r27 := verify_Check_ok fuel p1 v13 q14
    try simp [g17] at r27
    refine callD r27 (by simp) rfl ?_
    simp [g17]
    have r28 := ref48_Check_ok fuel p1 v15 q16
    try simp [g17] at r28
    refine callD r28 (by simp) rfl ?_
    simp [g17]
  refine awp_ret ?_
  obtain rfl := oi h
  simp
end Go.Proofs.Ythbjlmoaceaeeaa
set_option linter.unusedVariables false
set_option linter.unusedSimpArgs false
set_option maxRecDepth 100000
namespace Go.Proofs.Ythbjlmoaceaeeaa
open Go Go.Abs
theorem obind {α β : Type} (a : α) (f : α → Option β) : (some a).bind f = f a := Eq.trans (Option.bind_some a f) rfl
theorem chk64 {n : Int} (h1 : -9223372036854775808 ≤ n) (h2 : n ≤ 9223372036854775807) : chk .i64 n = some n := by rw [chk, if_pos]; exact ⟨h1, h2⟩
theorem app_some {α : Type} {b : Nat} {x y : List α} (h : 0 < b) (h2 : (x.length + y.length) * b ≤ 140737488355328) : app b x y = some (x ++ y) := by rw [app, if_pos ⟨h, h2⟩]
theorem idx_some {α : Type} {l : List α} {n : Int} {x : α} (h0 : 0 ≤ n) (h : l[n.toNat]? = some x) : idx l n = some x := by rw [idx, if_pos h0, h]
theorem ltI_t {a b : Int} (h : a < b) : ltI a b = true := decide_eq_true h
theorem ltI_f {a b : Int} (h : b ≤ a) : ltI a b = false := decide_eq_false (by omega)
theorem leI_t {a b : Int} (h : a ≤ b) : leI a b = true := decide_eq_true h
theorem leI_f {a b : Int} (h : b < a) : leI a b = false := decide_eq_false (by omega)
theorem eqI_t {a b : Int} (h : a = b) : eqI a b = true := decide_eq_true h
theorem eqI_f {a b : Int} (h : a ≠ b) : eqI a b = false := decide_eq_false h
theorem drop_split {α : Type} {s : List α} {i : Nat} (h : i < s.length) : ∃ x, s[i]? = some x ∧ s.drop i = x :: s.drop (i + 1) ∧ x ∈ s :=
  ⟨s[i], List.getElem?_eq_getElem h, List.drop_eq_getElem_cons h, List.getElem_mem h⟩
theorem idx_loop {α : Type} {s : List α} {P : α → Bool} {Q : α → Option Bool} {g : Nat → Nat → Option (Int ⊕ Unit)}
    (hg : ∀ k i, g (k + 1) i = if ltI ((i : Nat) : Int) (s.length : Int) then (s[i]?).bind fun x => (Q x).bind fun v => if v then some (.inl ((i : Nat) : Int)) else g k (i + 1) else some (.inr ()))
    (hQ : ∀ x ∈ s, Q x = some (P x)) : ∀ n k i, i + n = s.length → n < k → ∃ o, g k i = some o ∧ (((s.drop i).any P = true ∧ ∃ j : Nat, o = .inl (j : Int)) ∨ ((s.drop i).any P = false ∧ o = .inr ()))
  | 0, k, i, hi, hk => by
    obtain ⟨k, rfl⟩ : ∃ g, k = g + 1 := ⟨k - 1, by omega⟩
    rw [hg, ltI_f (by omega), List.drop_eq_nil_of_le (by omega)]
    exact ⟨_, rfl, .inr ⟨rfl, rfl⟩⟩
  | n + 1, k, i, hi, hk => by
    obtain ⟨k, rfl⟩ : ∃ g, k = g + 1 := ⟨k - 1, by omega⟩
    obtain ⟨x, h1, h2, h3⟩ := drop_split (s := s) (i := i) (by omega)
    rw [hg, ltI_t (by omega), if_pos rfl, h1, obind, hQ x h3, obind, h2, List.any_cons]
    cases hp : P x with
    | true => exact ⟨_, rfl, .inl ⟨rfl, i, rfl⟩⟩
    | false =>
      obtain ⟨o, o1, o2⟩ := idx_loop hg hQ n k (i + 1) (by omega) (by omega)
      exact ⟨o, by simpa using o1, by simpa using o2⟩
theorem cf_loop {α : Type} {s : List α} {P : α → Bool} {Q : α → Option Bool} {g : Nat → Nat → Option (Int ⊕ Unit)}
    (hg : ∀ k i, g (k + 1) i = if ltI ((i : Nat) : Int) (s.length : Int) then (s[i]?).bind fun x => (Q x).bind fun v => if v then some (.inl ((i : Nat) : Int)) else g k (i + 1) else some (.inr ()))
    (hQ : ∀ x ∈ s, Q x = some (P x)) {k : Nat} (hk : s.length < k) : (((g k 0).bind fun o => Sum.elim some (fun _ => some (-1)) o).bind fun v => some (leI 0 v)) = some (s.any P) := by
  obtain ⟨o, o1, o2⟩ := idx_loop hg hQ s.length k 0 (by omega) hk
  rw [o1, obind]
  rw [List.drop_zero] at o2
  rcases o2 with ⟨h1, j, rfl⟩ | ⟨h1, rfl⟩
  · rw [h1]; simp only [Sum.elim_inl, obind]; rw [leI_t (by omega)]
  · rw [h1]; rfl
theorem all_loop {α : Type} {s : List α} {P : α → Bool} {Q : Nat → α → Option Bool} {g : Nat → Nat → Option (Bool ⊕ Unit)}
    (hg : ∀ k i, g (k + 1) i = if ltI ((i : Nat) : Int) (s.length : Int) then (s[i]?).bind fun x => (Q i x).bind fun v => if !v then some (.inl false) else g k (i + 1) else some (.inr ()))
    (hQ : ∀ i x, s[i]? = some x → Q i x = some (P x)) : ∀ n k i, i + n = s.length → n < k → g k i = some (if (s.drop i).all P then .inr () else .inl false)
  | 0, k, i, hi, hk => by
    obtain ⟨k, rfl⟩ : ∃ g, k = g + 1 := ⟨k - 1, by omega⟩
    rw [hg, ltI_f (by omega), List.drop_eq_nil_of_le (by omega)]; rfl
  | n + 1, k, i, hi, hk => by
    obtain ⟨k, rfl⟩ : ∃ g, k = g + 1 := ⟨k - 1, by omega⟩
    obtain ⟨x, h1, h2, h3⟩ := drop_split (s := s) (i := i) (by omega)
    rw [hg, ltI_t (by omega), if_pos rfl, h1, obind, hQ i x h1, obind, h2, List.all_cons]
    cases hp : P x with
    | true => simpa using all_loop hg hQ n k (i + 1) (by omega) (by omega)
    | false => rfl
theorem alli_loop {α : Type} {s : List α} {P : Nat → α → Bool} {Q : Nat → α → Option Bool} {g : Nat → Nat → Option (Bool ⊕ Unit)}
    (hg : ∀ k i, g (k + 1) i = if ltI ((i : Nat) : Int) (s.length : Int) then (s[i]?).bind fun x => (Q i x).bind fun v => if !v then some (.inl false) else g k (i + 1) else some (.inr ()))
    (hQ : ∀ i x, s[i]? = some x → Q i x = some (P i x)) : ∀ n k i, i + n = s.length → n < k → g k i = some (if ((s.drop i).zipIdx i).all (fun p => P p.2 p.1) then .inr () else .inl false)
  | 0, k, i, hi, hk => by
    obtain ⟨k, rfl⟩ : ∃ g, k = g + 1 := ⟨k - 1, by omega⟩
    rw [hg, ltI_f (by omega), List.drop_eq_nil_of_le (by omega)]; rfl
  | n + 1, k, i, hi, hk => by
    obtain ⟨k, rfl⟩ : ∃ g, k = g + 1 := ⟨k - 1, by omega⟩
    obtain ⟨x, h1, h2, h3⟩ := drop_split (s := s) (i := i) (by omega)
    rw [hg, ltI_t (by omega), if_pos rfl, h1, obind, hQ i x h1, obind, h2, List.zipIdx_cons, List.all_cons]
    cases hp : P i x with
    | true => simpa only [Bool.not_true, Bool.false_eq_true, if_false, Bool.true_and] using alli_loop hg hQ n k (i + 1) (by omega) (by omega)
    | false => rfl
def okc (c : UInt8) : Bool := c == 10 || (decide (32 ≤ c.toNat) && decide (c.toNat ≤ 126))
theorem wb_M {c : UInt8} {b : List UInt8} (h : b.length + 1 ≤ 140737488355328) : M.strings_Builder_WriteByte c b = some (b ++ [c]) := by
  simp only [M.strings_Builder_WriteByte, M.strings_Builder_copyCheck, obind, app_some (b := 1) (x := b) (y := [c]) (by decide) (by simpa using h)]
theorem ws_M {s b : List UInt8} (h : b.length + s.length ≤ 140737488355328) : M.strings_Builder_WriteString s b = some ((s.length : Int), b ++ s) := by
  simp only [M.strings_Builder_WriteString, M.strings_Builder_copyCheck, obind, app_some (b := 1) (x := b) (y := s) (by decide) (by simpa using h)]
theorem vis_M (c : UInt8) : M.lexer_visible c = some (decide (32 ≤ c.toNat) && decide (c.toNat ≤ 126)) := by
  unfold M.lexer_visible leI
  congr 2
  · exact decide_eq_decide.2 (by omega)
  · exact decide_eq_decide.2 (by omega)
theorem e10 (c : UInt8) : eqI (c.toNat : Int) 10 = (c == 10) := by
  unfold eqI
  rw [Bool.eq_iff_iff]
  simp only [decide_eq_true_eq, beq_iff_eq]
  constructor
  · intro h; apply UInt8.toNat_inj.1; simp; omega
  · rintro rfl; rfl
theorem Quote_loop (s : List UInt8) (hs : s.length ≤ 20000) : ∀ (n i k : Nat) (b : List UInt8), i + n = s.length → n + 1 ≤ k → b.length + 2 * n ≤ 1000000 →
    if (s.drop i).all okc = true then ∃ b', M.lexer_Quote_l1 s k b i = some (.inr b') ∧ b'.length ≤ 1000000 else M.lexer_Quote_l1 s k b i = some (.inl ([], 3)) := by
  intro n
  induction n with
  | zero =>
    intro i k b hi hk hb
    obtain ⟨g, rfl⟩ : ∃ g, k = g + 1 := ⟨k - 1, by omega⟩
    rw [M.lexer_Quote_l1, ltI_f (by omega), List.drop_eq_nil_of_le (by omega)]
    exact ⟨b, rfl, by omega⟩
  | succ n ih =>
    intro i k b hi hk hb
    obtain ⟨g, rfl⟩ : ∃ g, k = g + 1 := ⟨k - 1, by omega⟩
    obtain ⟨c, hx, h2, _⟩ := drop_split (s := s) (i := i) (by omega)
    rw [M.lexer_Quote_l1, ltI_t (by omega), if_pos rfl, hx, h2, List.all_cons]
    simp only [obind, vis_M]
    by_cases c10 : (c == 10) = true
    · have ho : okc c = true := by unfold okc; rw [c10]; rfl
      rw [e10, if_pos c10, ws_M (by simp; omega)]
      simp only [obind, ho, Bool.true_and]
      exact ih (i + 1) g _ (by omega) (by omega) (by first | omega | (simp; omega))
    · rw [e10, if_neg c10]
      have c10 : (c == 10) = false := by simpa using c10
      cases hv : (decide (32 ≤ c.toNat) && decide (c.toNat ≤ 126))
      · have ho : okc c = false := by unfold okc; rw [hv, c10]; rfl
        rw [ho]; rfl
      · have ho : okc c = true := by unfold okc; rw [hv]; simp
        simp only [Bool.not_true, Bool.false_eq_true, if_false, ho, Bool.true_and]
        cases h34 : (eqI (c.toNat : Int) 34 || eqI (c.toNat : Int) 92)
        · simp only [Bool.false_eq_true, if_false]
          rw [wb_M (by omega)]
          simp only [obind]
          exact ih (i + 1) g (b ++ [c]) (by omega) (by omega) (by simp only [List.length_append, List.length_cons, List.length_nil]; omega)
        · simp only [if_true]
          rw [wb_M (by omega)]
          simp only [obind]
          rw [wb_M (by simp; omega)]
          simp only [obind]
          exact ih (i + 1) g (b ++ [92] ++ [c]) (by omega) (by omega) (by simp only [List.length_append, List.length_cons, List.length_nil]; omega)
def txt (s : List UInt8) : Bool := decide (s.length ≤ 16384) && s.all okc
theorem quoted_M (s : List UInt8) {fuel : Nat} (hf : 20000 ≤ fuel) : M.bytecode_quoted fuel s = some (txt s) := by
  rw [M.bytecode_quoted, M.lexer_Quote]
  by_cases h : s.length ≤ 16384
  · have hl := Quote_loop s (by omega) s.length 0 fuel [34] (by simp) (by omega) (by simp; omega)
    rw [List.drop_zero] at hl
    rw [ltI_f (by omega), if_neg (by simp), wb_M (by simp)]
    unfold txt
    simp only [obind, List.nil_append, decide_eq_true h, Bool.true_and]
    split at hl
    · rename_i ha
      obtain ⟨b', h1, h2⟩ := hl
      rw [h1, ha]
      simp only [obind, Sum.elim_inr]
      rw [wb_M (by omega)]
      rfl
    · rename_i ha
      rw [hl]
      simp only [obind, Sum.elim_inl, Bool.not_eq_true] at ha ⊢
      rw [ha]; rfl
  · rw [ltI_t (by omega), if_pos rfl]
    unfold txt
    rw [decide_eq_false h]; rfl
theorem Plain_M (s : List UInt8) {fuel : Nat} (hf : s.length < fuel) : M.ref02_Plain fuel s = some (s.all okc) := by
  rw [M.ref02_Plain, all_loop (s := s) (g := M.ref02_Plain_l1 s) (P := okc) (Q := fun _ c => ((if ltI (c.toNat : Int) 32 then some (!(eqI (c.toNat : Int) 10)) else if ltI 126 (c.toNat : Int) then some (!(eqI (c.toNat : Int) 10)) else some false : Option Bool).bind fun b => some (!b)))
    (fun k i => ?_) (fun i c _ => ?_) s.length fuel 0 (by omega) hf]
  · rw [List.drop_zero]
    cases s.all okc <;> rfl
  · rw [M.ref02_Plain_l1]
    cases hlt : ltI ((i : Nat) : Int) (s.length : Int) with
    | false => rfl
    | true =>
      have := ltT hlt
      obtain ⟨c, h1, _⟩ := drop_split (s := s) (i := i) (by omega)
      rw [if_pos rfl, if_pos rfl, h1, obind, obind]
      cases h : (if ltI (c.toNat : Int) 32 then some (!(eqI (c.toNat : Int) 10)) else if ltI 126 (c.toNat : Int) then some (!(eqI (c.toNat : Int) 10)) else some false : Option Bool) with
      | none => simp only [Option.bind_none]
      | some b => cases b <;> rfl
  · unfold okc
    rw [e10]
    by_cases h1 : c.toNat < 32
    · rw [ltI_t (by omega), if_pos rfl, obind, decide_eq_false (show ¬ 32 ≤ c.toNat by omega)]; simp
    · rw [ltI_f (by omega), if_neg (by simp), decide_eq_true (show 32 ≤ c.toNat by omega)]
      by_cases h2 : 126 < c.toNat
      · rw [ltI_t (by omega), if_pos rfl, obind, decide_eq_false (show ¬ c.toNat ≤ 126 by omega)]; simp
      · rw [ltI_f (by omega), if_neg (by simp), obind, decide_eq_true (show c.toNat ≤ 126 by omega)]; simp
theorem textual_M (s : List UInt8) {fuel : Nat} (hf : 20000 ≤ fuel) : M.ref46_textual fuel s = some (txt s) := by
  rw [M.ref46_textual]
  unfold txt
  by_cases h : s.length ≤ 16384
  · rw [leI_t (by omega), if_pos rfl, Plain_M s (by omega), decide_eq_true h]
    simp only [obind, Bool.true_and]
  · rw [leI_f (by omega), decide_eq_false h]; rfl
end Go.Proofs.Ythbjlmoaceaeeaa
set_option linter.unusedVariables false
set_option linter.unusedSimpArgs false
set_option maxRecDepth 100000
set_option maxHeartbeats 1000000
namespace Go.Proofs.Ythbjlmoaceaeeaa
open Go Go.Abs
def inn (n lo hi : Int) : Bool := (leI lo n) && (leI n hi)
theorem within_M (n lo hi : Int) : M.bytecode_within n lo hi = some (inn n lo hi) := rfl
theorem in_M (n lo hi : Int) : M.ref46_in n lo hi = some (inn n lo hi) := rfl
theorem inn_iff {n lo hi : Int} : inn n lo hi = true ↔ lo ≤ n ∧ n ≤ hi := by
  unfold inn leI; simp
def eff (i : Api.Instr) : Int × Int × Int :=
  if i.Op = 1 ∨ i.Op = 2 ∨ i.Op = 3 ∨ i.Op = 5 ∨ i.Op = 6 then (0, 1, 0)
  else if i.Op = 4 ∨ i.Op = 9 ∨ i.Op = 13 then (1, 0, 0)
  else if i.Op = 7 then (if inn i.B 0 1000 then (i.B, 1, 0) else (0, 0, 2))
  else if i.Op = 10 then (if inn i.A 0 1000 then (i.A, 1, 0) else (0, 0, 2))
  else if i.Op = 8 then (2, 1, 0)
  else if i.Op = 11 ∨ i.Op = 12 then (1, 1, 0)
  else if i.Op = 14 ∨ i.Op = 16 then (0, 0, 0)
  else if i.Op = 15 then (if inn i.A 1 14 then ((if i.A = 6 ∨ i.A = 11 ∨ i.A = 13 ∨ i.A = 14 then 1 else 2), 1, 0) else (0, 0, 2))
  else (0, 0, 2)
theorem opCases (op : Int) : (op < 1 ∨ 16 < op) ∨ op = 1 ∨ op = 2 ∨ op = 3 ∨ op = 4 ∨ op = 5 ∨ op = 6 ∨ op = 7 ∨ op = 8 ∨ op = 9 ∨ op = 10 ∨ op = 11 ∨ op = 12 ∨ op = 13 ∨ op = 14 ∨ op = 15 ∨ op = 16 := by omega
theorem opOut {op : Int} (h : op < 1 ∨ 16 < op) (k : Int) (h1 : 1 ≤ k) (h2 : k ≤ 16) : eqI op k = false ∧ op ≠ k := ⟨eqI_f (by omega), by omega⟩
theorem effect_M (i : Api.Instr) : M.bytecode_Effect i = some (eff i) := by
  obtain ⟨op, a, b⟩ := i
  rcases opCases op with h | h | h | h | h | h | h | h | h | h | h | h | h | h | h | h | h
  · have hk := fun k h1 h2 => opOut h k h1 h2
    simp only [M.bytecode_Effect, eff]
    simp [(hk 1 (by omega) (by omega)), (hk 2 (by omega) (by omega)), (hk 3 (by omega) (by omega)), (hk 4 (by omega) (by omega)), (hk 5 (by omega) (by omega)), (hk 6 (by omega) (by omega)), (hk 7 (by omega) (by omega)), (hk 8 (by omega) (by omega)), (hk 9 (by omega) (by omega)), (hk 10 (by omega) (by omega)), (hk 11 (by omega) (by omega)), (hk 12 (by omega) (by omega)), (hk 13 (by omega) (by omega)), (hk 14 (by omega) (by omega)), (hk 15 (by omega) (by omega)), (hk 16 (by omega) (by omega))]
  all_goals subst h
  all_goals simp only [M.bytecode_Effect, eff, within_M, obind]
  all_goals try rfl
  · cases h : inn b 0 1000 <;> simp [eqI]
  · cases h : inn a 0 1000 <;> simp [eqI]
  · cases h : inn a 1 14
    · simp [eqI]
    · simp only [eqI, M.bytecode_taken]
      by_cases h1 : a = 6
      · simp [h1]
      by_cases h2 : a = 11
      · simp [h2]
      by_cases h3 : a = 13
      · simp [h3]
      by_cases h4 : a = 14
      · simp [h4]
      simp [h1, h2, h3, h4]
theorem reffect_M (i : Api.Instr) : M.ref46_Effect i = some (eff i) := by
  obtain ⟨op, a, b⟩ := i
  rcases opCases op with h | h | h | h | h | h | h | h | h | h | h | h | h | h | h | h | h
  · have hk := fun k h1 h2 => opOut h k h1 h2
    simp only [M.ref46_Effect, eff]
    simp [(hk 1 (by omega) (by omega)), (hk 2 (by omega) (by omega)), (hk 3 (by omega) (by omega)), (hk 4 (by omega) (by omega)), (hk 5 (by omega) (by omega)), (hk 6 (by omega) (by omega)), (hk 7 (by omega) (by omega)), (hk 8 (by omega) (by omega)), (hk 9 (by omega) (by omega)), (hk 10 (by omega) (by omega)), (hk 11 (by omega) (by omega)), (hk 12 (by omega) (by omega)), (hk 13 (by omega) (by omega)), (hk 14 (by omega) (by omega)), (hk 15 (by omega) (by omega)), (hk 16 (by omega) (by omega))]
  all_goals subst h
  all_goals simp only [M.ref46_Effect, eff, in_M, obind]
  all_goals try rfl
  · cases h : inn b 0 1000 <;> simp [eqI]
  · cases h : inn a 0 1000 <;> simp [eqI]
  · have key : M.ref46_Arity a = some (if inn a 1 14 then (if a = 6 ∨ a = 11 ∨ a = 13 ∨ a = 14 then 1 else 2) else 0) := by
      unfold M.ref46_Arity
      by_cases h1 : a = 6
      · subst h1; rfl
      by_cases h2 : a = 11
      · subst h2; rfl
      by_cases h3 : a = 13
      · subst h3; rfl
      by_cases h4 : a = 14
      · subst h4; rfl
      rw [eqI_f h1, eqI_f h2, eqI_f h3, eqI_f h4]
      simp only [Bool.false_eq_true, if_false]
      by_cases h5 : 1 ≤ a ∧ a ≤ 14
      · rw [ltI_f h5.1, ltI_f h5.2, inn_iff.2 h5]; simp [h1, h2, h3, h4]
      · have : inn a 1 14 = false := by cases hi : inn a 1 14 with | false => rfl | true => exact absurd (inn_iff.1 hi) h5
        rw [this]
        by_cases h6 : a < 1
        · rw [ltI_t h6]; rfl
        · rw [ltI_f (by omega), ltI_t (show (14 : Int) < a by omega)]; rfl
    rw [key]
    cases h : inn a 1 14
    · simp [eqI, obind]
    · simp only [if_true, obind]
      by_cases h1 : a = 6 ∨ a = 11 ∨ a = 13 ∨ a = 14
      · simp only [h1, if_true]; rfl
      · simp only [h1, if_false]; rfl
theorem eff_ok {i : Api.Instr} (h : (eff i).2.2 = 0) : 0 ≤ (eff i).1 ∧ (eff i).1 ≤ 1000 ∧ 0 ≤ (eff i).2.1 ∧ (eff i).2.1 ≤ 1 := by
  unfold eff at h ⊢
  repeat' (first | split at h | split)
  all_goals simp_all [inn_iff]
  all_goals omega
end Go.Proofs.Ythbjlmoaceaeeaa
set_option linter.unusedVariables false
set_option linter.unusedSimpArgs false
set_option maxRecDepth 100000
set_option maxHeartbeats 1000000
namespace Go.Proofs.Ythbjlmoaceaeeaa
open Go Go.Abs
def upL (a : Int) : Nat → List Int
  | 0 => []
  | n + 1 => a :: upL (a + 1) n
theorem upL_len (a : Int) : ∀ n, (upL a n).length = n := by
  intro n
  induction n generalizing a with
  | zero => rfl
  | succ n ih => simp [upL, ih]
theorem upL_snoc (a : Int) : ∀ n, upL a (n + 1) = upL a n ++ [a + n] := by
  intro n
  induction n generalizing a with
  | zero => simp [upL]
  | succ n ih => rw [upL, ih, upL]; simp; omega
theorem upL_get (a : Int) : ∀ n (x : Int), x ∈ upL a n ↔ a ≤ x ∧ x < a + n := by
  intro n
  induction n generalizing a with
  | zero => intro x; simp only [upL, List.not_mem_nil, false_iff]; omega
  | succ n ih => intro x; simp only [upL, List.mem_cons, ih]; omega
def goL (at1 : Nat) (x : Api.Instr) : Option (List Int) :=
  if x.Op = 14 then some [x.A]
  else if x.Op = 13 then (if inn x.B 1 1000 then some (upL (at1 + 1) x.B.toNat) else none)
  else some [(at1 : Int) + 1]
def inL (f : Api.Fun) (l : List Int) : Bool := l.all fun y => inn y 0 ((f.Code.length : Int) - 1)
def tgt (f : Api.Fun) (at1 : Nat) (x : Api.Instr) : List Int × Int :=
  if x.Op < 1 ∨ 16 < x.Op then ([], 2)
  else if x.Op = 9 ∨ x.Op = 16 then ([], 0)
  else match goL at1 x with
    | none => ([], 24)
    | some l => if inL f l then (l, 0) else ([], 24)
theorem any_not {α : Type} (l : List α) (P : α → Bool) : (l.any fun y => !P y) = !l.all P := by
  induction l with
  | nil => rfl
  | cons a l ih => rw [List.any_cons, List.all_cons, ih]; cases P a <;> rfl
theorem cfT {f : Api.Fun} (hn : f.Code.length ≤ 16384) (l : List Int) {fuel : Nat} (hf : l.length < fuel) : M.slices_ContainsFunc_int_Targets_1 fuel l f = some (!inL f l) := by
  rw [M.slices_ContainsFunc_int_Targets_1, M.slices_IndexFunc_int_Targets_1]
  have := cf_loop (s := l) (P := fun y => !inn y 0 ((f.Code.length : Int) - 1)) (Q := fun x => M.bytecode_Targets_1 x f) (g := M.slices_IndexFunc_int_Targets_1_l1 l f) (fun k i => by rw [M.slices_IndexFunc_int_Targets_1_l1])
    (fun x _ => by rw [M.bytecode_Targets_1, chk64 (by omega) (by omega)]; rfl) hf
  rw [this]
  unfold inL
  congr 1
  exact any_not l _
theorem swLoop (at1 : Nat) (x : Api.Instr) (ha : at1 ≤ 16384) (hb : x.B ≤ 1000) : ∀ (n k : Nat) (i : Int) (out : List Int), 0 ≤ i → i + n = x.B → n < k → out.length + n ≤ 2000 →
    M.bytecode_Targets_l1 (at1 : Int) x k out i = some (out ++ upL ((at1 : Int) + 1 + i) n)
  | 0, k, i, out, h0, hi, hk, ho => by
    obtain ⟨k, rfl⟩ : ∃ g, k = g + 1 := ⟨k - 1, by omega⟩
    rw [M.bytecode_Targets_l1, ltI_f (by omega)]; simp [upL]
  | n + 1, k, i, out, h0, hi, hk, ho => by
    obtain ⟨k, rfl⟩ : ∃ g, k = g + 1 := ⟨k - 1, by omega⟩
    rw [M.bytecode_Targets_l1, ltI_t (by omega), if_pos rfl, chk64 (by omega) (by omega), obind, chk64 (by omega) (by omega), obind, app_some (by decide) (by simp; omega), obind, chk64 (by omega) (by omega), obind,
      swLoop at1 x ha hb n k (i + 1) _ (by omega) (by omega) (by omega) (by simp; omega), upL]
    rw [List.append_assoc]
    simp only [List.cons_append, List.nil_append]
    rw [show (at1 : Int) + 1 + (i + 1) = (at1 : Int) + 1 + i + 1 by omega]
theorem rswLoop (at1 : Nat) (x : Api.Instr) (ha : at1 ≤ 16384) (hb : x.B ≤ 1000) : ∀ (n k : Nat) (i : Int) (out : List Int), 0 ≤ i → i + n = x.B + 1 → n < k → out.length + n ≤ 2000 →
    M.ref46_Targets_l4 (at1 : Int) x k out i = some (out ++ upL ((at1 : Int) + i) n)
  | 0, k, i, out, h0, hi, hk, ho => by
    obtain ⟨k, rfl⟩ : ∃ g, k = g + 1 := ⟨k - 1, by omega⟩
    rw [M.ref46_Targets_l4, leI_f (by omega)]; simp [upL]
  | n + 1, k, i, out, h0, hi, hk, ho => by
    obtain ⟨k, rfl⟩ : ∃ g, k = g + 1 := ⟨k - 1, by omega⟩
    rw [M.ref46_Targets_l4, leI_t (by omega), if_pos rfl, chk64 (by omega) (by omega), obind, app_some (by decide) (by simp; omega), obind, chk64 (by omega) (by omega), obind,
      rswLoop at1 x ha hb n k (i + 1) _ (by omega) (by omega) (by omega) (by simp; omega), upL]
    rw [List.append_assoc]
    simp only [List.cons_append, List.nil_append]
    rw [show (at1 : Int) + (i + 1) = (at1 : Int) + i + 1 by omega]
theorem inLoop {f : Api.Fun} (hn : f.Code.length ≤ 16384) (l : List Int) {g : Nat → Nat → Option (((List Int) × Int) ⊕ Unit)}
    (hg : ∀ k i, g (k + 1) i = if ltI ((i : Nat) : Int) (l.length : Int) then (l[i]?).bind fun x => (chk .i64 ((f.Code.length : Int) - 1)).bind fun n => (M.ref46_in x 0 n).bind fun v => if !v then some (.inl (([] : List Int), 24)) else g k (i + 1) else some (.inr ())) :
    ∀ n k i, i + n = l.length → n < k → g k i = some (if inL f (l.drop i) then .inr () else .inl ([], 24))
  | 0, k, i, hi, hk => by
    obtain ⟨k, rfl⟩ : ∃ g, k = g + 1 := ⟨k - 1, by omega⟩
    rw [hg, ltI_f (by omega), List.drop_eq_nil_of_le (by omega)]; rfl
  | n + 1, k, i, hi, hk => by
    obtain ⟨k, rfl⟩ : ∃ g, k = g + 1 := ⟨k - 1, by omega⟩
    obtain ⟨x, h1, h2, h3⟩ := drop_split (s := l) (i := i) (by omega)
    have ih := inLoop hn l hg n k (i + 1) (by omega) (by omega)
    rw [hg, ltI_t (by omega), if_pos rfl, h1, obind, chk64 (by omega) (by omega), obind, in_M, obind, h2]
    unfold inL at ih ⊢
    rw [List.all_cons]
    cases hp : inn x 0 ((f.Code.length : Int) - 1) with
    | true => rw [ih]; simp
    | false => rfl
theorem known_M (op : Int) : M.bytecode_known op = some (inn op 1 16) := rfl
theorem word_M (op : Int) : ∃ w, M.ref46_Word op = some w ∧ eqS w [] = !inn op 1 16 := by
  rcases opCases op with h | h | h | h | h | h | h | h | h | h | h | h | h | h | h | h | h
  · have : inn op 1 16 = false := by cases hi : inn op 1 16 with | false => rfl | true => have := inn_iff.1 hi; omega
    rw [this, M.ref46_Word, obind]
    by_cases h1 : op < 1
    · rw [ltI_t h1]; exact ⟨_, rfl, rfl⟩
    · rw [ltI_f (by omega), leI_t (by simp; omega)]; exact ⟨_, rfl, rfl⟩
  all_goals subst h; exact ⟨_, rfl, rfl⟩
theorem targets_M {f : Api.Fun} (hn : f.Code.length ≤ 16384) {at1 : Nat} {x : Api.Instr} (hx : f.Code[at1]? = some x) {fuel : Nat} (hf : 20000 ≤ fuel) : M.bytecode_Targets fuel f (at1 : Int) = some (tgt f at1 x) := by
  have hlt := (List.getElem?_eq_some_iff.1 hx).1
  have hi : idx f.Code (at1 : Int) = some x := idx_some (by omega) (by simpa using hx)
  rw [M.bytecode_Targets, ltI_f (show (0 : Int) ≤ (at1 : Int) by omega), leI_f (by omega)]
  simp only [Bool.false_eq_true, if_false, hi, obind, known_M]
  unfold tgt
  cases hk : inn x.Op 1 16 with
  | false =>
    have : x.Op < 1 ∨ 16 < x.Op := by
      apply Decidable.byContradiction; intro h
      have : inn x.Op 1 16 = true := inn_iff.2 ⟨by omega, by omega⟩
      rw [this] at hk; cases hk
    rw [if_pos this]; rfl
  | true =>
    have hk := inn_iff.1 hk
    rw [if_neg (show ¬ (x.Op < 1 ∨ 16 < x.Op) by omega)]
    simp only [Bool.not_true, Bool.false_eq_true, if_false]
    by_cases h9 : x.Op = 9
    · rw [eqI_t h9, if_pos rfl, if_pos (.inl h9)]
    by_cases h16 : x.Op = 16
    · rw [eqI_f h9, eqI_t h16]; simp only [Bool.false_eq_true, if_false, if_true]; rw [if_pos (Or.inr h16)]
    rw [eqI_f h9, eqI_f h16, if_neg (show ¬ (x.Op = 9 ∨ x.Op = 16) by omega)]
    simp only [Bool.false_eq_true, if_false]
    unfold goL
    by_cases h14 : x.Op = 14
    · rw [eqI_t h14, if_pos rfl, cfT hn _ (by simp; omega), obind, if_pos h14]
      cases h : inL f [x.A] <;> simp [h]
    rw [eqI_f h14, if_neg h14]
    simp only [Bool.false_eq_true, if_false]
    by_cases h13 : x.Op = 13
    · rw [eqI_t h13, if_pos rfl, within_M, obind, if_pos h13]
      cases hb : inn x.B 1 1000 with
      | false => rfl
      | true =>
        have hb' := inn_iff.1 hb
        simp only [Bool.not_true, Bool.false_eq_true, if_false, if_true]
        rw [swLoop at1 x (by omega) hb'.2 x.B.toNat fuel 0 [] (by omega) (by omega) (by omega) (by simp; omega), obind, List.nil_append, Int.add_zero, cfT hn _ (by rw [upL_len]; omega), obind]
        cases h : inL f (upL ((at1 : Int) + 1) x.B.toNat) <;> simp [h]
    rw [eqI_f h13, if_neg h13]
    simp only [Bool.false_eq_true, if_false]
    rw [chk64 (by omega) (by omega), obind, cfT hn _ (by simp; omega), obind]
    cases h : inL f [(at1 : Int) + 1] <;> simp [h]
theorem rtargets_M {f : Api.Fun} (hn : f.Code.length ≤ 16384) {at1 : Nat} {x : Api.Instr} (hx : f.Code[at1]? = some x) {fuel : Nat} (hf : 20000 ≤ fuel) : M.ref46_Targets fuel f (at1 : Int) = some (tgt f at1 x) := by
  have hlt := (List.getElem?_eq_some_iff.1 hx).1
  have hi : idx f.Code (at1 : Int) = some x := idx_some (by omega) (by simpa using hx)
  obtain ⟨w, hw1, hw2⟩ := word_M x.Op
  have hin : inn (at1 : Int) 0 ((f.Code.length : Int) - 1) = true := inn_iff.2 ⟨by omega, by omega⟩
  rw [M.ref46_Targets, chk64 (by omega) (by omega), obind, in_M, obind, hin]
  simp only [Bool.not_true, Bool.false_eq_true, if_false, hi, obind, hw1, hw2]
  unfold tgt
  cases hk : inn x.Op 1 16 with
  | false =>
    have : x.Op < 1 ∨ 16 < x.Op := by
      apply Decidable.byContradiction; intro h
      have : inn x.Op 1 16 = true := inn_iff.2 ⟨by omega, by omega⟩
      rw [this] at hk; cases hk
    rw [if_pos this]; rfl
  | true =>
    have hk := inn_iff.1 hk
    obtain ⟨g, rfl⟩ : ∃ g, fuel = g + 1 := ⟨fuel - 1, by omega⟩
    rw [if_neg (show ¬ (x.Op < 1 ∨ 16 < x.Op) by omega)]
    simp only [Bool.not_true, Bool.false_eq_true, if_false]
    by_cases h9 : x.Op = 9
    · rw [eqI_t h9, if_pos rfl, if_pos (.inl h9)]; rfl
    by_cases h16 : x.Op = 16
    · rw [eqI_f h9, eqI_t h16]; simp only [Bool.false_eq_true, if_false, if_true]; rw [if_pos (Or.inr h16)]; rfl
    rw [eqI_f h9, eqI_f h16, if_neg (show ¬ (x.Op = 9 ∨ x.Op = 16) by omega)]
    simp only [Bool.false_eq_true, if_false]
    unfold goL
    by_cases h14 : x.Op = 14
    · rw [eqI_t h14, if_pos rfl, app_some (by decide) (by simp), obind, inLoop hn _ (g := M.ref46_Targets_l3 f ([] ++ [x.A])) (fun k i => by rw [M.ref46_Targets_l3]) _ _ 0 (Nat.zero_add _) (by simp; omega), obind, if_pos h14, List.drop_zero, List.nil_append]
      cases h : inL f [x.A] <;> simp [h]
    rw [eqI_f h14, if_neg h14]
    simp only [Bool.false_eq_true, if_false]
    by_cases h13 : x.Op = 13
    · rw [eqI_t h13, if_pos rfl, in_M, obind, if_pos h13]
      cases hb : inn x.B 1 1000 with
      | false => rfl
      | true =>
        have hb' := inn_iff.1 hb
        simp only [Bool.not_true, Bool.false_eq_true, if_false, if_true]
        rw [rswLoop at1 x (by omega) hb'.2 x.B.toNat (g + 1) 1 [] (by omega) (by omega) (by omega) (by simp; omega), obind, List.nil_append,
          inLoop hn _ (g := M.ref46_Targets_l5 f (upL ((at1 : Int) + 1) x.B.toNat)) (fun k i => by rw [M.ref46_Targets_l5]) _ _ 0 (Nat.zero_add _) (by rw [upL_len]; omega), obind, List.drop_zero]
        cases h : inL f (upL ((at1 : Int) + 1) x.B.toNat) <;> simp [h]
    rw [eqI_f h13, if_neg h13]
    simp only [Bool.false_eq_true, if_false]
    rw [chk64 (by omega) (by omega), obind, app_some (by decide) (by simp), obind, inLoop hn _ (g := M.ref46_Targets_l6 f ([] ++ [(at1 : Int) + 1])) (fun k i => by rw [M.ref46_Targets_l6]) _ _ 0 (Nat.zero_add _) (by simp; omega), obind, List.drop_zero, List.nil_append]
    cases h : inL f [(at1 : Int) + 1] <;> simp [h]
theorem tgt_in {f : Api.Fun} {at1 : Nat} {x : Api.Instr} (h : (tgt f at1 x).2 = 0) : ∀ y ∈ (tgt f at1 x).1, 0 ≤ y ∧ y < f.Code.length := by
  unfold tgt at h ⊢
  split
  · intro y hy; cases hy
  · split
    · intro y hy; cases hy
    · rename_i h1 h2
      rw [if_neg h1, if_neg h2] at h
      split
      · intro y hy; cases hy
      · rename_i l hl
        rw [hl] at h
        dsimp only at h ⊢
        split
        · rename_i h3
          intro y hy
          have := inn_iff.1 (List.all_eq_true.1 h3 y hy)
          omega
        · intro y hy; cases hy
end Go.Proofs.Ythbjlmoaceaeeaa
