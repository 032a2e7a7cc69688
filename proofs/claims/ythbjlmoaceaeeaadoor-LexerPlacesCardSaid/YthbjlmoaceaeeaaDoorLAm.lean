/- For every input the law LexerPlaces returns true. Part 13 of 18. No condition. -/
import Derived.Test.YthbjlmoaceaeeaaDoorLAl
import Derived.Shelf.Strings.Builder1
import Derived.Shelf.Small.Strs
import Derived.Shelf.Strings.Search1
import Derived.Shelf.Strings.Search2
import Derived.Shelf.Strings.Search3
import Derived.Shelf.Strings.Count
import Derived.Shelf.LaysM
import Derived.Shelf.Strings.Shaped
import Derived.Shelf.Strings.Split
import Derived.Shelf.Strings.SplitShaped
import Derived.Shelf.Unicode.DecodeSlow
set_option linter.unusedVariables false
namespace Go.Proofs
open Go.Shelf
def Tryd.lays146_ren : Go.Shelf.Ren := ⟨fun | 146 => 6 | 221 => 13 | 268 => 33 | 138 => 20 | 143 => 34 | 195 => 37 | 197 => 40 | 218 => 38 | 219 => 41 | 260 => 44 | 217 => 36 | 225 => 45 | 224 => 46 | 267 => 47 | 266 => 43 | 314 => 48 | n => n, fun | 9 => 9 | 31 => 29 | 3 => 3 | 4 => 4 | 0 => 0 | 105 => 70 | 21 => 21 | 5 => 5 | 46 => 75 | 119 => 76 | 139 => 79 | 138 => 78 | 146 => 81 | 51 => 80 | n => n, fun | 1 => 0 | 3 => 1 | 4 => 2 | n => n⟩
theorem Tryd.lays146 : Go.Proofs.Lays.n146 Tryd.prog Tryd.lays146_ren := {
  mixed := by kernel_rfl
  f138 := Tryd.func20.trans (congrArg some (by kernel_rfl))
  f143 := Tryd.func34.trans (congrArg some (by kernel_rfl))
  f146 := Tryd.func6.trans (congrArg some (by kernel_rfl))
  f195 := Tryd.func37.trans (congrArg some (by kernel_rfl))
  f197 := Tryd.func40.trans (congrArg some (by kernel_rfl))
  f217 := Tryd.func36.trans (congrArg some (by kernel_rfl))
  f218 := Tryd.func38.trans (congrArg some (by kernel_rfl))
  f219 := Tryd.func41.trans (congrArg some (by kernel_rfl))
  f221 := Tryd.func13.trans (congrArg some (by kernel_rfl))
  f224 := Tryd.func46.trans (congrArg some (by kernel_rfl))
  f225 := Tryd.func45.trans (congrArg some (by kernel_rfl))
  f260 := Tryd.func44.trans (congrArg some (by kernel_rfl))
  f266 := Tryd.func43.trans (congrArg some (by kernel_rfl))
  f267 := Tryd.func47.trans (congrArg some (by kernel_rfl))
  f268 := Tryd.func33.trans (congrArg some (by kernel_rfl))
  f314 := Tryd.func48.trans (congrArg some (by kernel_rfl))
  t0 := Tryd.underlying0
  a0 := Tryd.isAgg0
  z0 := Tryd.sizeOf0
  v0 := Tryd.zeroValue0
  t3 := Tryd.underlying3
  a3 := Tryd.isAgg3
  z3 := Tryd.sizeOf3
  v3 := Tryd.zeroValue3
  t4 := Tryd.underlying4
  a4 := Tryd.isAgg4
  z4 := Tryd.sizeOf4
  v4 := Tryd.zeroValue4
  t5 := Tryd.underlying5
  a5 := Tryd.isAgg5
  z5 := Tryd.sizeOf5
  v5 := Tryd.zeroValue5
  t9 := Tryd.underlying9
  a9 := Tryd.isAgg9
  z9 := Tryd.sizeOf9
  v9 := Tryd.zeroValue9
  t21 := Tryd.underlying21
  a21 := Tryd.isAgg21
  z21 := Tryd.sizeOf21
  v21 := Tryd.zeroValue21
  t31 := Tryd.underlying29
  a31 := Tryd.isAgg29
  z31 := Tryd.sizeOf29
  v31 := Tryd.zeroValue29
  t46 := Tryd.underlying75
  a46 := Tryd.isAgg75
  z46 := Tryd.sizeOf75
  v46 := Tryd.zeroValue75
  t51 := Tryd.underlying80
  a51 := Tryd.isAgg80
  z51 := Tryd.sizeOf80
  v51 := Tryd.zeroValue80
  t105 := Tryd.underlying70
  a105 := Tryd.isAgg70
  z105 := Tryd.sizeOf70
  v105 := Tryd.zeroValue70
  t119 := Tryd.underlying76
  a119 := Tryd.isAgg76
  z119 := Tryd.sizeOf76
  t138 := Tryd.underlying78
  a138 := Tryd.isAgg78
  z138 := Tryd.sizeOf78
  v138 := Tryd.zeroValue78
  t139 := Tryd.underlying79
  a139 := Tryd.isAgg79
  z139 := Tryd.sizeOf79
  v139 := Tryd.zeroValue79
  t146 := Tryd.underlying81
  a146 := Tryd.isAgg81
  z146 := Tryd.sizeOf81
  v146 := Tryd.zeroValue81
  g1 := by kernel_rfl
  g3 := by kernel_rfl
  g4 := by kernel_rfl }
open Go.RowKit Go.Lib in
theorem Tryd.strings_Split (s sep : ByteArray) (m : Int) (w : World) (hs : s.size < 4294967281) (hm : w.cell? ⟨0, 0, none⟩ = some (.int .i64 m)) (h1 : 1 ≤ sep.size) :
    Calls Tryd.prog 6 #[.string s, .string sep] w fun e w' =>
      e = .returned (.slice (some ⟨w.heap.size, 0, none⟩) (Lib.countB s sep + 1) (Lib.countB s sep + 1)) ∧ w' = w.alloc (.cells ((Lib.splitB sep 0 (Lib.countB s sep) s).map Value.string).toArray 9) := Any.strings_Split Tryd.lays146 (by kernel_rfl) s sep m w hs hm h1
end Go.Proofs
set_option linter.unusedVariables false
set_option linter.unusedSimpArgs false
set_option maxRecDepth 100000
namespace Go.Proofs.YthbjlmoaceaeeaaDoor
open Go Go.Abs Go.RowKit
theorem strings_Split_ok (s0 t0 : List UInt8) (r : List (List UInt8)) (h : M.strings_Split s0 t0 = some r) : Pure Tryd.prog 6 [.str s0, .str t0] (.sl (r.map cS)) := by
  refine ⟨⟨Tryd.f6, Tryd.func6, by rfl, by rfl⟩, fun imm w vals him hgl ha => ?_⟩
  obtain ⟨a, b, rfl, h1, h2⟩ := vals2 ha
  unfold M.strings_Split at h
  split at h
  case isFalse => cases h
  rename_i hlen
  cases h
  cases h1 with
  | str s l hs hb =>
    cases h2 with
    | str t l2 ht hb2 =>
      obtain ⟨m, hm⟩ := hgl 0 (by simp [gl])
      have z1 : s.size = s0.length := by rw [← hs]; exact Array.length_toList.symm
      have z2 : t.size = t0.length := by rw [← ht]; exact Array.length_toList.symm
      refine (Tryd.strings_Split s t m w (by omega) (him _ _ hm) (by omega)).mono fun e w' he => ?_
      obtain ⟨rfl, rfl⟩ := he
      have hle := Lib.countB_le t (by omega) s.size s (Nat.le_refl _)
      have hL := Lib.splitB_all t (by omega) 0 _ s rfl
      have hD : (Lib.splitB t 0 (Lib.countB s t) s).map (·.data.toList) = Lib.split s0 t0 := by
        rw [Lib.splitB_data, hs, ht]
        show Lib.splitK t0 0 (Lib.count s.data.toList t.data.toList) s0 = Lib.splitK t0 0 (Lib.count s0 t0) s0
        rw [hs, ht]
      generalize Lib.splitB t 0 (Lib.countB s t) s = ps at hL hD ⊢
      have hlt : ∀ x v, imm x = some v → x.block < w.heap.size := fun x v hx => World.block_lt_of_cell? _ _ (him x v hx)
      refine ⟨fun x => if x.block = w.heap.size then (w.alloc (.cells (ps.map Value.string).toArray 9)).cell? x else imm x, _, rfl, ?_, fun x v hx => ?_, fun x v hx => ?_, Below.alloc (Below.refl _ _) (Nat.le_refl _) _, fun x v hx => ?_⟩
      · refine .sl 1 _ ⟨w.heap.size, 0, none⟩ _ _ (fun i _ => Value.string (ps.getD i default)) ?_ (Nat.le_refl _) (by omega) ?_ ?_ ?_
        · rw [← hD]; simpa using hL.symm
        · intro i e he
          obtain ⟨z, _, rfl⟩ := getElem?_map_some he
          rfl
        · intro i e he j x hx
          obtain ⟨z, hz, rfl⟩ := getElem?_map_some he
          rw [← hD] at hz
          obtain ⟨p, hp, rfl⟩ := getElem?_map_some hz
          have hj : j = 0 := by
            rcases j with _ | j
            · rfl
            · simp [cS] at hx
          subst hj
          have hadd : ((⟨w.heap.size, 0, none⟩ : Addr).add (i * 1 + 0)) = ⟨w.heap.size, i, none⟩ := by
            unfold Addr.add
            split
            · rename_i h0; have : i = 0 := by omega
              subst this; rfl
            · simp
          rw [hadd]
          simp only [if_true]
          rw [World.cell?_alloc_new]
          simp [hp, List.getD_eq_getElem?_getD]
        · intro i e he j x hx
          obtain ⟨z, hz, rfl⟩ := getElem?_map_some he
          have hzl : z.length ≤ s0.length := splitK_short t0 _ s0 z (List.mem_of_getElem? hz)
          rw [← hD] at hz
          obtain ⟨p, hp, rfl⟩ := getElem?_map_some hz
          have hx' : x = .str p.data.toList := by
            rcases j with _ | j
            · simpa [cS] using hx.symm
            · simp [cS] at hx
          subst hx'
          have : ps.getD i default = p := by simp [List.getD_eq_getElem?_getD, hp]
          rw [this]
          exact .str _ _ rfl (by omega)
      · have := hlt x v hx
        show (if x.block = w.heap.size then _ else imm x) = some v
        rw [if_neg (by omega)]; exact hx
      · dsimp only at hx
        split at hx
        · exact hx
        · rw [World.cell?_alloc_lt _ _ _ (hlt x v hx)]; exact him x v hx
      · dsimp only at hx
        split at hx
        · rename_i hb; exact .inr (by omega)
        · exact .inl hx
end Go.Proofs.YthbjlmoaceaeeaaDoor
set_option linter.unusedVariables false
set_option linter.unusedSimpArgs false
set_option maxRecDepth 100000
set_option maxHeartbeats 1000000
namespace Go.Proofs.YthbjlmoaceaeeaaDoor
open Go Go.Abs
theorem stringslite_HasPrefix_ok (s1 : (List UInt8)) (prefix2 : (List UInt8)) (r : Bool) (h : M.stringslite_HasPrefix s1 prefix2 = some r) : Pure Tryd.prog 18 [.str s1, .str prefix2] (.bool r) := by
  rw [M.stringslite_HasPrefix] at h
  refine pure_of_body Tryd.func18 (by rfl) (by rfl) (by simp) (by simp) (by simp) ?_
  refine cut 18 0 [(0, .str s1), (1, .str prefix2)] [] ?_ ?_
  · refine st ?_
    simp
  obtain ⟨b14, q15, h⟩ := bs h
  refine cut 18 0 [(4, .bool b14)] [] ?_ ?_
  · rcases sp q15 with ⟨g3, q15⟩ | ⟨g3, q15⟩
    · have c4 := leT g3
      refine factS 1 rfl fun f5 => ?_
      refine factS 0 rfl fun f6 => ?_
      obtain ⟨s7, q8, q15⟩ := bs q15
      obtain ⟨q9, q10⟩ := subC_ok q8
      try simp at q9
      try simp at q10
      obtain rfl := Option.some.inj q15
      refine st ?_
      simp [g3, q9, q10]
    · have c11 := leF g3
      refine factS 1 rfl fun f12 => ?_
      refine factS 0 rfl fun f13 => ?_
      obtain rfl := Option.some.inj q15
      refine st ?_
      simp [g3]
  refine awp_ret ?_
  obtain rfl := Option.some.inj h
  simp
end Go.Proofs.YthbjlmoaceaeeaaDoor
set_option linter.unusedVariables false
set_option linter.unusedSimpArgs false
set_option maxRecDepth 100000
set_option maxHeartbeats 1000000
namespace Go.Proofs.YthbjlmoaceaeeaaDoor
open Go Go.Abs
theorem strings_HasPrefix_ok (s1 : (List UInt8)) (prefix2 : (List UInt8)) (r : Bool) (h : M.strings_HasPrefix s1 prefix2 = some r) : Pure Tryd.prog 9 [.str s1, .str prefix2] (.bool r) := by
  rw [M.strings_HasPrefix] at h
  refine pure_of_body Tryd.func9 (by rfl) (by rfl) (by simp) (by simp) (by simp) ?_
  refine cut 8 0 [(0, .str s1), (1, .str prefix2)] [] ?_ ?_
  · refine st ?_
    simp
  obtain ⟨v3, q4, h⟩ := bs h
  refine cut 8 0 [(4, .bool v3)] [] ?_ ?_
  · refine st ?_
    simp
    have r5 := stringslite_HasPrefix_ok s1 prefix2 v3 q4
    try simp [] at r5
    refine callPure r5 (by simp) rfl ?_
    simp
  refine awp_ret ?_
  obtain rfl := Option.some.inj h
  simp
end Go.Proofs.YthbjlmoaceaeeaaDoor
set_option linter.unusedVariables false
set_option linter.unusedSimpArgs false
set_option maxRecDepth 100000
set_option maxHeartbeats 1000000
namespace Go.Proofs.YthbjlmoaceaeeaaDoor
open Go Go.Abs
theorem strings_IndexByte_ok (s1 : (List UInt8)) (c2 : UInt8) (r : Int) (h : M.strings_IndexByte s1 c2 = some r) : Pure Tryd.prog 19 [.str s1, .int .u8 (c2.toNat : Int)] (.int .i64 r) := by
  rw [M.strings_IndexByte] at h
  refine pure_of_body Tryd.func19 (by rfl) (by rfl) (by simp) (by simp) (by simp) ?_
  refine cut 8 0 [(0, .str s1), (1, .int .u8 (c2.toNat : Int))] [] ?_ ?_
  · refine st ?_
    simp
  obtain ⟨v3, q4, h⟩ := bs h
  refine cut 8 0 [(4, .int .i64 v3)] [] ?_ ?_
  · refine st ?_
    simp
    have r5 := stringslite_IndexByte_ok s1 c2 v3 q4
    try simp [] at r5
    refine callPure r5 (by simp) rfl ?_
    simp
  refine awp_ret ?_
  obtain rfl := Option.some.inj h
  simp
end Go.Proofs.YthbjlmoaceaeeaaDoor
set_option linter.unusedVariables false
set_option linter.unusedSimpArgs false
set_option maxRecDepth 100000
set_option maxHeartbeats 1000000
namespace Go.Proofs.YthbjlmoaceaeeaaDoor
open Go Go.Abs
theorem lexer_scanner_skip_ok (fuel : Nat) (w1 : Lexer.scanner) (r : Int × Lexer.scanner) (h : M.lexer_scanner_skip fuel w1 = some r) : Raw Tryd.prog 10 [.mptr 0 0] [[.str w1.s, .int .i64 w1.at_]] (.int .i64 r.1) [[.str r.2.s, .int .i64 r.2.at_]] := by
  rw [M.lexer_scanner_skip] at h
  refine raw_of_bodyB Tryd.func10 (by rfl) (by rfl) (by simp) (by simp) ?_
  refine cut 105 1 [(0, .mptr 0 0)] [[.str w1.s, .int .i64 w1.at_]] ?_ ?_
  · refine st ?_
    simp
  refine awp_seq ?_
  refine awp_block ?_
  obtain ⟨o4, l5, h⟩ := bs h
  refine awp_inv (fun p : Nat × Int => mkS 105 1 [(0, .mptr 0 0)] [[.str w1.s, .int .i64 p.2]]) (fun p => M.lexer_scanner_skip_l1 fuel w1 p.1 p.2 = some o4) (fun p => p.1) (fuel, w1.at_) l5 (le_mkS (by simp)) ?_
  rintro ⟨k6, at2⟩ l5
  dsimp only at l5 ⊢
  cases k6 with
  | zero =>
    rw [M.lexer_scanner_skip_l1] at l5; cases l5
  | succ k7 =>
    rw [M.lexer_scanner_skip_l1] at l5
    refine awp_seq ?_
    refine cut 105 1 [(0, .mptr 0 0), (15, .bool (ltI at2 (w1.s.length : Int)))] [[.str w1.s, .int .i64 at2]] ?_ ?_
    · refine awp_region_draw [] mixed (n := 105) rfl (by decide) ?_
      simp
    rcases sp l5 with ⟨g8, l5⟩ | ⟨g8, l5⟩
    · have c9 := ltT g8
      refine condT rfl g8 ?_
      refine factCS 0 0 rfl rfl fun f10 => ?_
      refine awp_skip ?_
      refine seq_eq ?_
      refine awp_block ?_
      obtain ⟨s11, q12, l5⟩ := bs l5
      obtain ⟨q13, q14⟩ := subC_ok q12
      try simp at q13
      try simp at q14
      refine cut 105 1 [(0, .mptr 0 0), (3, .str s11)] [[.str w1.s, .int .i64 at2]] ?_ ?_
      · refine awp_region_draw [] mixed (n := 105) rfl (by decide) ?_
        simp [q13, q14]
      refine awp_block ?_
      obtain ⟨c15, q16, l5⟩ := bs l5
      obtain ⟨v17, q18, l5⟩ := bs l5
      refine cut 105 1 [(0, .mptr 0 0), (3, .str s11), (25, .bool (leI 0 v17))] [[.str w1.s, .int .i64 at2]] ?_ ?_
      · refine st ?_
        simp [q16]
        have r90 := strings_IndexByte_ok [32, 9, 10] c15 v17 q18
        try simp [q16] at r90
        refine callPure r90 (by simp) rfl ?_
        simp [q16]
      rcases sp l5 with ⟨g19, l5⟩ | ⟨g19, l5⟩
      · have c20 := leT g19
        refine condT rfl g19 ?_
        obtain ⟨n21, q22, l5⟩ := bs l5
        obtain ⟨q23, q24⟩ := chk_ok q22
        try simp at q23
        try simp at q24
        have c25 := q23; simp only [Rng, inR] at c25
        refine last 105 1 [(0, .mptr 0 0)] [[.str w1.s, .int .i64 n21]] ?_ fun zz hs => ?_
        · refine st ?_
          simp [q23, q24]
        refine blk_n ?_
        refine blk_n ?_
        exact ⟨(k7, n21), hs, l5, by simp⟩
      · have c26 := leF g19
        refine condF rfl g19 ?_
        obtain ⟨v27, q28, l5⟩ := bs l5
        refine cut 105 1 [(0, .mptr 0 0), (37, .bool v27)] [[.str w1.s, .int .i64 at2]] ?_ ?_
        · refine st ?_
          simp
          have r89 := strings_HasPrefix_ok s11 [40, 42] v27 q28
          try simp [] at r89
          refine callPure r89 (by simp) rfl ?_
          simp
        rcases sp l5 with ⟨g29, l5⟩ | ⟨g29, l5⟩
        · refine condT rfl g29 ?_
          refine cut 105 1 [(0, .mptr 0 0), (4, .int .i64 at2), (5, .int .i64 0)] [[.str w1.s, .int .i64 at2]] ?_ ?_
          · refine st ?_
            simp
          refine awp_block ?_
          obtain ⟨o33, l34, l5⟩ := bs l5
          refine awp_inv (fun p : Nat × Int × Int => mkS 105 1 [(0, .mptr 0 0), (4, .int .i64 at2), (5, .int .i64 p.2.2)] [[.str w1.s, .int .i64 p.2.1]]) (fun p => M.lexer_scanner_skip_l2 w1 at2 p.1 p.2.1 p.2.2 = some o33) (fun p => p.1) (fuel, at2, 0) l34 (le_mkS (by simp)) ?_
          rintro ⟨k35, at30, i31⟩ l34
          dsimp only at l34 ⊢
          cases k35 with
          | zero =>
            rw [M.lexer_scanner_skip_l2] at l34; cases l34
          | succ k36 =>
            rw [M.lexer_scanner_skip_l2] at l34
            refine awp_block ?_
            refine awp_seq ?_
            refine awp_block ?_
            refine cut 105 1 [(0, .mptr 0 0), (4, .int .i64 at2), (5, .int .i64 i31), (51, .bool (leI (w1.s.length : Int) at30))] [[.str w1.s, .int .i64 at30]] ?_ ?_
            · refine awp_region_draw [] mixed (n := 105) rfl (by decide) ?_
              simp
            rcases sp l34 with ⟨g37, l34⟩ | ⟨g37, l34⟩
            · have c38 := leT g37
              refine condT rfl g37 ?_
              refine cut 105 1 [(2, .int .i64 at2)] [[.str w1.s, .int .i64 at30]] ?_ ?_
              · refine st ?_
                simp
              refine awp_ret ?_
              refine ret_blk ?_
              refine ret_seq ?_
              refine ret_blk ?_
              replace l5 := retL l34 l5
              refine ret_seq ?_
              refine ret_blk ?_
              refine ret_blk ?_
              refine ret_blk ?_
              replace h := retL l5 h
              refine ret_seq ?_
              refine ret_blk ?_
              refine ret_seq ?_
              obtain rfl := Option.some.inj h
              simp
            · have c39 := leF g37
              refine condF rfl g37 ?_
              obtain ⟨s40, q41, l34⟩ := bs l34
              obtain ⟨q42, q43⟩ := subC_ok q41
              try simp at q42
              try simp at q43
              obtain ⟨v44, q45, l34⟩ := bs l34
              refine cut 105 1 [(0, .mptr 0 0), (4, .int .i64 at2), (5, .int .i64 i31), (63, .bool v44)] [[.str w1.s, .int .i64 at30]] ?_ ?_
              · refine awp_region_draw [] mixed (n := 105) rfl (by decide) ?_
                simp [q42, q43]
                have r88 := strings_HasPrefix_ok s40 [40, 42] v44 q45
                try simp [q42, q43] at r88
                refine callD r88 (by simp) rfl ?_
                simp [q42, q43]
              rcases sp l34 with ⟨g46, l34⟩ | ⟨g46, l34⟩
              · refine condT rfl g46 ?_
                obtain ⟨n47, q48, l34⟩ := bs l34
                obtain ⟨q49, q50⟩ := chk_ok q48
                try simp at q49
                try simp at q50
                have c51 := q49; simp only [Rng, inR] at c51
                refine cut 105 1 [(0, .mptr 0 0), (4, .int .i64 at2), (5, .int .i64 n47)] [[.str w1.s, .int .i64 at30]] ?_ ?_
                · refine st ?_
                  simp [q49, q50]
                obtain ⟨n52, q53, l34⟩ := bs l34
                obtain ⟨q54, q55⟩ := chk_ok q53
                try simp at q54
                try simp at q55
                have c56 := q54; simp only [Rng, inR] at c56
                refine last 105 1 [(0, .mptr 0 0), (4, .int .i64 at2), (5, .int .i64 n47)] [[.str w1.s, .int .i64 n52]] ?_ fun zz hs => ?_
                · refine st ?_
                  simp [q54, q55]
                refine blk_n ?_
                refine seq_le ?_ hs
                refine cut 105 1 [(0, .mptr 0 0), (4, .int .i64 at2), (5, .int .i64 n47), (104, .bool (eqI n47 0))] [[.str w1.s, .int .i64 n52]] ?_ ?_
                · refine st ?_
                  simp
                rcases sp l34 with ⟨g57, l34⟩ | ⟨g57, l34⟩
                · have c58 := eqT g57
                  refine condT rfl g57 ?_
                  refine awp_exit ?_
                  refine exit_blk_ne (by decide) ?_
                  rcases o33 with o33 | o32
                  · cases l34
                  have q59 := Sum.inr.inj (Option.some.inj l34)
                  replace l5 := elimR l5
                  have q59 := q59.symm
                  refine exit_seq ?_
                  refine exit_blk ?_
                  refine blk_n ?_
                  refine blk_n ?_
                  exact ⟨(k7, o32), le_mkS (by simp [q59]), l5, by simp⟩
                · have c60 := eqF g57
                  refine condF rfl g57 ?_
                  refine awp_skip ?_
                  refine blk_n ?_
                  exact ⟨(k36, n52, n47), le_mkS (by simp []), l34, by simp⟩
              · refine condF rfl g46 ?_
                obtain ⟨v61, q62, l34⟩ := bs l34
                refine cut 105 1 [(0, .mptr 0 0), (4, .int .i64 at2), (5, .int .i64 i31), (83, .bool v61)] [[.str w1.s, .int .i64 at30]] ?_ ?_
                · refine awp_region_draw [] mixed (n := 105) rfl (by decide) ?_
                  simp [q42, q43]
                  have r87 := strings_HasPrefix_ok s40 [42, 41] v61 q62
                  try simp [q42, q43] at r87
                  refine callD r87 (by simp) rfl ?_
                  simp [q42, q43]
                rcases sp l34 with ⟨g63, l34⟩ | ⟨g63, l34⟩
                · refine condT rfl g63 ?_
                  obtain ⟨n64, q65, l34⟩ := bs l34
                  obtain ⟨q66, q67⟩ := chk_ok q65
                  try simp at q66
                  try simp at q67
                  have c68 := q66; simp only [Rng, inR] at c68
                  refine cut 105 1 [(0, .mptr 0 0), (4, .int .i64 at2), (5, .int .i64 n64)] [[.str w1.s, .int .i64 at30]] ?_ ?_
                  · refine st ?_
                    simp [q66, q67]
                  obtain ⟨n69, q70, l34⟩ := bs l34
                  obtain ⟨q71, q72⟩ := chk_ok q70
                  try simp at q71
                  try simp at q72
                  have c73 := q71; simp only [Rng, inR] at c73
                  refine last 105 1 [(0, .mptr 0 0), (4, .int .i64 at2), (5, .int .i64 n64)] [[.str w1.s, .int .i64 n69]] ?_ fun zz hs => ?_
                  · refine st ?_
                    simp [q71, q72]
                  refine blk_n ?_
                  refine seq_le ?_ hs
                  refine cut 105 1 [(0, .mptr 0 0), (4, .int .i64 at2), (5, .int .i64 n64), (104, .bool (eqI n64 0))] [[.str w1.s, .int .i64 n69]] ?_ ?_
                  · refine st ?_
                    simp
                  rcases sp l34 with ⟨g74, l34⟩ | ⟨g74, l34⟩
                  · have c75 := eqT g74
                    refine condT rfl g74 ?_
                    refine awp_exit ?_
                    refine exit_blk_ne (by decide) ?_
                    rcases o33 with o33 | o32
                    · cases l34
                    have q76 := Sum.inr.inj (Option.some.inj l34)
                    replace l5 := elimR l5
                    have q76 := q76.symm
                    refine exit_seq ?_
                    refine exit_blk ?_
                    refine blk_n ?_
                    refine blk_n ?_
                    exact ⟨(k7, o32), le_mkS (by simp [q76]), l5, by simp⟩
                  · have c77 := eqF g74
                    refine condF rfl g74 ?_
                    refine awp_skip ?_
                    refine blk_n ?_
                    exact ⟨(k36, n69, n64), le_mkS (by simp []), l34, by simp⟩
                · refine condF rfl g63 ?_
                  obtain ⟨n78, q79, l34⟩ := bs l34
                  obtain ⟨q80, q81⟩ := chk_ok q79
                  try simp at q80
                  try simp at q81
                  have c82 := q80; simp only [Rng, inR] at c82
                  refine last 105 1 [(0, .mptr 0 0), (4, .int .i64 at2), (5, .int .i64 i31)] [[.str w1.s, .int .i64 n78]] ?_ fun zz hs => ?_
                  · refine st ?_
                    simp [q80, q81]
                  refine blk_n ?_
                  refine seq_le ?_ hs
                  refine cut 105 1 [(0, .mptr 0 0), (4, .int .i64 at2), (5, .int .i64 i31), (104, .bool (eqI i31 0))] [[.str w1.s, .int .i64 n78]] ?_ ?_
                  · refine st ?_
                    simp
                  rcases sp l34 with ⟨g83, l34⟩ | ⟨g83, l34⟩
                  · have c84 := eqT g83
                    refine condT rfl g83 ?_
                    refine awp_exit ?_
                    refine exit_blk_ne (by decide) ?_
                    rcases o33 with o33 | o32
                    · cases l34
                    have q85 := Sum.inr.inj (Option.some.inj l34)
                    replace l5 := elimR l5
                    have q85 := q85.symm
                    refine exit_seq ?_
                    refine exit_blk ?_
                    refine blk_n ?_
                    refine blk_n ?_
                    exact ⟨(k7, o32), le_mkS (by simp [q85]), l5, by simp⟩
                  · have c86 := eqF g83
                    refine condF rfl g83 ?_
                    refine awp_skip ?_
                    refine blk_n ?_
                    exact ⟨(k36, n78, i31), le_mkS (by simp []), l34, by simp⟩
        · refine condF rfl g29 ?_
          refine cut 105 1 [(2, .int .i64 (-1))] [[.str w1.s, .int .i64 at2]] ?_ ?_
          · refine st ?_
            simp
          refine awp_ret ?_
          refine ret_blk ?_
          refine ret_blk ?_
          replace h := retL l5 h
          refine ret_seq ?_
          refine ret_blk ?_
          refine ret_seq ?_
          obtain rfl := Option.some.inj h
          simp
    · have c91 := ltF g8
      refine condF rfl g8 ?_
      refine factCS 0 0 rfl rfl fun f92 => ?_
      refine awp_exit ?_
      refine exit_seq ?_
      rcases o4 with o4 | o3
      · cases l5
      have q93 := Sum.inr.inj (Option.some.inj l5)
      replace h := elimR h
      have q93 := q93.symm
      refine exit_seq ?_
      refine exit_blk ?_
      refine seq_le (t := mkS 105 1 [] [[.str w1.s, .int .i64 o3]]) ?_ (le_mkS (by simp [q93]))
      refine cut 105 1 [(2, .int .i64 (-1))] [[.str w1.s, .int .i64 o3]] ?_ ?_
      · refine st ?_
        simp
      refine awp_ret ?_
      obtain rfl := Option.some.inj h
      simp
end Go.Proofs.YthbjlmoaceaeeaaDoor
set_option linter.unusedVariables false
set_option linter.unusedSimpArgs false
set_option maxRecDepth 100000
set_option maxHeartbeats 1000000
namespace Go.Proofs.YthbjlmoaceaeeaaDoor
open Go Go.Abs
theorem bytealg_LastIndexByteString_ok (fuel : Nat) (s1 : (List UInt8)) (c2 : UInt8) (r : Int) (h : M.bytealg_LastIndexByteString fuel s1 c2 = some r) : Pure Tryd.prog 39 [.str s1, .int .u8 (c2.toNat : Int)] (.int .i64 r) := by
  rw [M.bytealg_LastIndexByteString] at h
  refine pure_of_body Tryd.func39 (by rfl) (by rfl) (by simp) (by simp) (by simp) ?_
  refine cut 19 0 [(0, .str s1), (1, .int .u8 (c2.toNat : Int))] [] ?_ ?_
  · refine st ?_
    simp
  refine awp_seq ?_
  obtain ⟨n3, q4, h⟩ := bs h
  obtain ⟨q5, q6⟩ := chk_ok q4
  try simp at q5
  try simp at q6
  have c7 := q5; simp only [Rng, inR] at c7
  refine cut 19 0 [(0, .str s1), (1, .int .u8 (c2.toNat : Int)), (5, .int .i64 n3)] [] ?_ ?_
  · refine st ?_
    simp [q5, q6]
  refine awp_block ?_
  obtain ⟨o10, l11, h⟩ := bs h
  refine awp_inv (fun p : Nat × Int => mkS 19 0 [(0, .str s1), (1, .int .u8 (c2.toNat : Int)), (5, .int .i64 p.2)] []) (fun p => M.bytealg_LastIndexByteString_l1 s1 c2 p.1 p.2 = some o10 ∧ (-1) ≤ p.2 ∧ p.2 ≤ 9223372036854775807) (fun p => p.1) (fuel, n3) ⟨l11, by (try dsimp only); omega, by (try dsimp only); omega⟩ (le_mkS (by simp)) ?_
  rintro ⟨k14, i8⟩ ⟨l11, c12, c13⟩
  dsimp only at l11 c12 c13 ⊢
  cases k14 with
  | zero =>
    rw [M.bytealg_LastIndexByteString_l1] at l11; cases l11
  | succ k15 =>
    rw [M.bytealg_LastIndexByteString_l1] at l11
    refine awp_seq ?_
    refine cut 19 0 [(0, .str s1), (1, .int .u8 (c2.toNat : Int)), (5, .int .i64 i8), (10, .bool (leI 0 i8))] [] ?_ ?_
    · refine st ?_
      simp
    rcases sp l11 with ⟨g16, l11⟩ | ⟨g16, l11⟩
    · have c17 := leT g16
      refine condT rfl g16 ?_
      refine awp_skip ?_
      refine seq_eq ?_
      refine awp_seq ?_
      refine awp_block ?_
      obtain ⟨c18, q19, l11⟩ := bs l11
      obtain ⟨q20, q21⟩ := idx_ok q19
      refine cut 19 0 [(0, .str s1), (1, .int .u8 (c2.toNat : Int)), (5, .int .i64 i8), (17, .bool (eqI (c18.toNat : Int) (c2.toNat : Int)))] [] ?_ ?_
      · refine st ?_
        simp [q20, q21]
      rcases sp l11 with ⟨g22, l11⟩ | ⟨g22, l11⟩
      · have c23 := eqT g22
        refine condT rfl g22 ?_
        refine cut 19 0 [(4, .int .i64 i8)] [] ?_ ?_
        · refine st ?_
          simp
        refine awp_ret ?_
        refine ret_blk ?_
        refine ret_seq ?_
        replace h := retL l11 h
        refine ret_seq ?_
        refine ret_blk ?_
        refine ret_seq ?_
        obtain rfl := Option.some.inj h
        simp
      · have c24 := eqF g22
        refine condF rfl g22 ?_
        refine awp_skip ?_
        refine blk_n ?_
        refine seq_eq ?_
        have q25 : Rng .i64 (i8 - 1) := by simp only [Rng, inR]; omega
        try simp at q25
        refine last 19 0 [(0, .str s1), (1, .int .u8 (c2.toNat : Int)), (5, .int .i64 (i8 - 1))] [] ?_ fun zz hs => ?_
        · refine st ?_
          simp [q25]
        exact ⟨(k15, i8 - 1), hs, ⟨l11, by (try dsimp only); omega, by (try dsimp only); omega⟩, by simp⟩
    · have c26 := leF g16
      refine condF rfl g16 ?_
      refine awp_exit ?_
      refine exit_seq ?_
      rcases o10 with o10 | o9
      · cases l11
      have q27 := Sum.inr.inj (Option.some.inj l11)
      replace h := elimR h
      refine exit_seq ?_
      refine exit_blk ?_
      refine seq_le (t := mkS 19 0 [] []) ?_ (le_mkS (by simp []))
      refine cut 19 0 [(4, .int .i64 (-1))] [] ?_ ?_
      · refine st ?_
        simp
      refine awp_ret ?_
      obtain rfl := Option.some.inj h
      simp
end Go.Proofs.YthbjlmoaceaeeaaDoor
set_option linter.unusedVariables false
set_option linter.unusedSimpArgs false
set_option maxRecDepth 100000
set_option maxHeartbeats 1000000
namespace Go.Proofs.YthbjlmoaceaeeaaDoor
open Go Go.Abs
theorem strings_LastIndexByte_ok (fuel : Nat) (s1 : (List UInt8)) (c2 : UInt8) (r : Int) (h : M.strings_LastIndexByte fuel s1 c2 = some r) : Pure Tryd.prog 21 [.str s1, .int .u8 (c2.toNat : Int)] (.int .i64 r) := by
  rw [M.strings_LastIndexByte] at h
  refine pure_of_body Tryd.func21 (by rfl) (by rfl) (by simp) (by simp) (by simp) ?_
  refine cut 8 0 [(0, .str s1), (1, .int .u8 (c2.toNat : Int))] [] ?_ ?_
  · refine st ?_
    simp
  obtain ⟨v3, q4, h⟩ := bs h
  refine cut 8 0 [(4, .int .i64 v3)] [] ?_ ?_
  · refine st ?_
    simp
    have r5 := bytealg_LastIndexByteString_ok fuel s1 c2 v3 q4
    try simp [] at r5
    refine callPure r5 (by simp) rfl ?_
    simp
  refine awp_ret ?_
  obtain rfl := Option.some.inj h
  simp
end Go.Proofs.YthbjlmoaceaeeaaDoor
set_option linter.unusedVariables false
set_option linter.unusedSimpArgs false
set_option maxRecDepth 100000
set_option maxHeartbeats 1000000
namespace Go.Proofs.YthbjlmoaceaeeaaDoor
open Go Go.Abs
theorem lexer_place_ok (fuel : Nat) (s1 : (List UInt8)) (at2 : Int) (r : Api.Pos) (h : M.lexer_place fuel s1 at2 = some r) : Pure Tryd.prog 11 [.str s1, .int .i64 at2] (.agg [.int .i64 r.Line, .int .i64 r.Column]) := by
  rw [M.lexer_place] at h
  refine pure_of_body Tryd.func11 (by rfl) (by rfl) (by simp) (by simp) (by simp) ?_
  refine cut 17 0 [(0, .str s1), (1, .int .i64 at2), (4, .mptr 0 0)] [[.int .i64 0, .int .i64 0]] ?_ ?_
  · refine st ?_
    simp
  obtain ⟨s3, q4, h⟩ := bs h
  obtain ⟨q5, q6⟩ := subC_ok q4
  try simp at q5
  try simp at q6
  refine cut 17 0 [(1, .int .i64 at2), (4, .mptr 0 0), (5, .str s3)] [[.int .i64 0, .int .i64 0]] ?_ ?_
  · refine st ?_
    simp [q5, q6]
  obtain ⟨v7, q8, h⟩ := bs h
  obtain ⟨n9, q10, h⟩ := bs h
  obtain ⟨q11, q12⟩ := chk_ok q10
  try simp at q11
  try simp at q12
  have c13 := q11; simp only [Rng, inR] at c13
  obtain ⟨v14, q15, h⟩ := bs h
  obtain ⟨n16, q17, h⟩ := bs h
  obtain ⟨q18, q19⟩ := chk_ok q17
  try simp at q18
  try simp at q19
  have c20 := q18; simp only [Rng, inR] at c20
  refine cut 17 0 [(4, .mptr 0 0)] [[.int .i64 n9, .int .i64 n16]] ?_ ?_
  · refine st ?_
    simp [q11, q12, q18, q19]
    have r21 := strings_Count_ok s3 [10] v7 q8
    try simp [q11, q12, q18, q19] at r21
    refine callPure r21 (by simp) rfl ?_
    simp [q11, q12, q18, q19]
    have r22 := strings_LastIndexByte_ok fuel s3 (10 : UInt8) v14 q15
    try simp [q11, q12, q18, q19] at r22
    refine callPure r22 (by simp) rfl ?_
    simp [q11, q12, q18, q19]
  refine awp_ret ?_
  obtain rfl := Option.some.inj h
  simp
end Go.Proofs.YthbjlmoaceaeeaaDoor
set_option linter.unusedVariables false
set_option linter.unusedSimpArgs false
set_option maxRecDepth 100000
set_option maxHeartbeats 1000000
namespace Go.Proofs.YthbjlmoaceaeeaaDoor
open Go Go.Abs
theorem lexer_small_ok (c1 : UInt8) (r : Bool) (h : M.lexer_small c1 = some r) : Pure Tryd.prog 24 [.int .u8 (c1.toNat : Int)] (.bool r) := by
  rw [M.lexer_small] at h
  refine pure_of_body Tryd.func24 (by rfl) (by rfl) (by simp) (by simp) (by simp) ?_
  refine cut 9 0 [(0, .int .u8 (c1.toNat : Int))] [] ?_ ?_
  · refine st ?_
    simp
  refine cut 9 0 [(2, .bool ((leI 97 (c1.toNat : Int)) && (leI (c1.toNat : Int) 122)))] [] ?_ ?_
  · rcases tf (leI 97 (c1.toNat : Int)) with g2 | g2
    · have c3 := leT g2
      refine st ?_
      simp [g2]
    · have c4 := leF g2
      refine st ?_
      simp [g2]
  refine awp_ret ?_
  obtain rfl := Option.some.inj h
  simp
end Go.Proofs.YthbjlmoaceaeeaaDoor
set_option linter.unusedVariables false
set_option linter.unusedSimpArgs false
set_option maxRecDepth 100000
set_option maxHeartbeats 1000000
namespace Go.Proofs.YthbjlmoaceaeeaaDoor
open Go Go.Abs
theorem lexer_capital_ok (c1 : UInt8) (r : Bool) (h : M.lexer_capital c1 = some r) : Pure Tryd.prog 25 [.int .u8 (c1.toNat : Int)] (.bool r) := by
  rw [M.lexer_capital] at h
  refine pure_of_body Tryd.func25 (by rfl) (by rfl) (by simp) (by simp) (by simp) ?_
  refine cut 9 0 [(0, .int .u8 (c1.toNat : Int))] [] ?_ ?_
  · refine st ?_
    simp
  refine cut 9 0 [(2, .bool ((leI 65 (c1.toNat : Int)) && (leI (c1.toNat : Int) 90)))] [] ?_ ?_
  · rcases tf (leI 65 (c1.toNat : Int)) with g2 | g2
    · have c3 := leT g2
      refine st ?_
      simp [g2]
    · have c4 := leF g2
      refine st ?_
      simp [g2]
  refine awp_ret ?_
  obtain rfl := Option.some.inj h
  simp
end Go.Proofs.YthbjlmoaceaeeaaDoor
set_option linter.unusedVariables false
set_option linter.unusedSimpArgs false
set_option maxRecDepth 100000
set_option maxHeartbeats 1000000
namespace Go.Proofs.YthbjlmoaceaeeaaDoor
open Go Go.Abs
theorem lexer_digit_ok (c1 : UInt8) (r : Bool) (h : M.lexer_digit c1 = some r) : Pure Tryd.prog 29 [.int .u8 (c1.toNat : Int)] (.bool r) := by
  rw [M.lexer_digit] at h
  refine pure_of_body Tryd.func29 (by rfl) (by rfl) (by simp) (by simp) (by simp) ?_
  refine cut 9 0 [(0, .int .u8 (c1.toNat : Int))] [] ?_ ?_
  · refine st ?_
    simp
  refine cut 9 0 [(2, .bool ((leI 48 (c1.toNat : Int)) && (leI (c1.toNat : Int) 57)))] [] ?_ ?_
  · rcases tf (leI 48 (c1.toNat : Int)) with g2 | g2
    · have c3 := leT g2
      refine st ?_
      simp [g2]
    · have c4 := leF g2
      refine st ?_
      simp [g2]
  refine awp_ret ?_
  obtain rfl := Option.some.inj h
  simp
end Go.Proofs.YthbjlmoaceaeeaaDoor
set_option linter.unusedVariables false
set_option linter.unusedSimpArgs false
set_option maxRecDepth 100000
set_option maxHeartbeats 1000000
namespace Go.Proofs.YthbjlmoaceaeeaaDoor
open Go Go.Abs
theorem lexer_inner_ok (c1 : UInt8) (r : Bool) (h : M.lexer_inner c1 = some r) : Pure Tryd.prog 27 [.int .u8 (c1.toNat : Int)] (.bool r) := by
  rw [M.lexer_inner] at h
  refine pure_of_body Tryd.func27 (by rfl) (by rfl) (by simp) (by simp) (by simp) ?_
  refine cut 17 0 [(0, .int .u8 (c1.toNat : Int))] [] ?_ ?_
  · refine st ?_
    simp
  obtain ⟨b11, q12, h⟩ := bs h
  refine cut 17 0 [(2, .bool b11)] [] ?_ ?_
  · obtain ⟨v2, q3, q12⟩ := bs q12
    rcases sp q12 with ⟨g4, q12⟩ | ⟨g4, q12⟩
    · obtain rfl := Option.some.inj q12
      refine st ?_
      simp [g4]
      have r13 := lexer_small_ok c1 v2 q3
      try simp [g4] at r13
      refine callPure r13 (by simp) rfl ?_
      simp [g4]
    · obtain ⟨v5, q6, q12⟩ := bs q12
      rcases sp q12 with ⟨g7, q12⟩ | ⟨g7, q12⟩
      · obtain rfl := Option.some.inj q12
        refine st ?_
        simp [g4, g7]
        have r14 := lexer_small_ok c1 v2 q3
        try simp [g4, g7] at r14
        refine callPure r14 (by simp) rfl ?_
        simp [g4, g7]
        have r15 := lexer_capital_ok c1 v5 q6
        try simp [g4, g7] at r15
        refine callPure r15 (by simp) rfl ?_
        simp [g4, g7]
      · obtain ⟨v8, q9, q12⟩ := bs q12
        rcases sp q12 with ⟨g10, q12⟩ | ⟨g10, q12⟩
        · obtain rfl := Option.some.inj q12
          refine st ?_
          simp [g4, g7, g10]
          have r16 := lexer_small_ok c1 v2 q3
          try simp [g4, g7, g10] at r16
          refine callPure r16 (by simp) rfl ?_
          simp [g4, g7, g10]
          have r17 := lexer_capital_ok c1 v5 q6
          try simp [g4, g7, g10] at r17
          refine callPure r17 (by simp) rfl ?_
          simp [g4, g7, g10]
          have r18 := lexer_digit_ok c1 v8 q9
          try simp [g4, g7, g10] at r18
          refine callPure r18 (by simp) rfl ?_
          simp [g4, g7, g10]
        · obtain rfl := Option.some.inj q12
          refine st ?_
          simp [g4, g7, g10]
          have r19 := lexer_small_ok c1 v2 q3
          try simp [g4, g7, g10] at r19
          refine callPure r19 (by simp) rfl ?_
          simp [g4, g7, g10]
          have r20 := lexer_capital_ok c1 v5 q6
          try simp [g4, g7, g10] at r20
          refine callPure r20 (by simp) rfl ?_
          simp [g4, g7, g10]
          have r21 := lexer_digit_ok c1 v8 q9
          try simp [g4, g7, g10] at r21
          refine callPure r21 (by simp) rfl ?_
          simp [g4, g7, g10]
  refine awp_ret ?_
  obtain rfl := Option.some.inj h
  simp
end Go.Proofs.YthbjlmoaceaeeaaDoor
set_option linter.unusedVariables false
set_option linter.unusedSimpArgs false
set_option maxRecDepth 100000
set_option maxHeartbeats 1000000
namespace Go.Proofs.YthbjlmoaceaeeaaDoor
open Go Go.Abs
theorem lexer_length_inner_ok (fuel : Nat) (s1 : (List UInt8)) (r : Int) (h : M.lexer_length_inner fuel s1 = some r) : Pure Tryd.prog 26 [.str s1, .fn (.func 27) [] []] (.int .i64 r) := by
  rw [M.lexer_length_inner] at h
  refine pure_of_body Tryd.func26 (by rfl) (by rfl) (by simp) (by simp) (by simp) ?_
  refine cut 20 0 [(0, .str s1), (1, .fn (.func 27) [] [])] [] ?_ ?_
  · refine st ?_
    simp
  refine cut 20 0 [(0, .str s1), (1, .fn (.func 27) [] []), (5, .int .i64 0)] [] ?_ ?_
  · refine st ?_
    simp
  refine awp_seq ?_
  refine awp_block ?_
  obtain ⟨o3, l4, h⟩ := bs h
  refine awp_inv (fun p : Nat × Int => mkS 20 0 [(0, .str s1), (1, .fn (.func 27) [] []), (5, .int .i64 p.2)] []) (fun p => M.lexer_length_inner_l1 s1 p.1 p.2 = some o3 ∧ 0 ≤ p.2) (fun p => p.1) (fuel, 0) ⟨l4, by (try dsimp only); omega⟩ (le_mkS (by simp)) ?_
  rintro ⟨k6, n2⟩ ⟨l4, c5⟩
  dsimp only at l4 c5 ⊢
  cases k6 with
  | zero =>
    rw [M.lexer_length_inner_l1] at l4; cases l4
  | succ k7 =>
    rw [M.lexer_length_inner_l1] at l4
    refine awp_seq ?_
    obtain ⟨b19, q20, l4⟩ := bs l4
    refine cut 20 0 [(0, .str s1), (1, .fn (.func 27) [] []), (5, .int .i64 n2), (16, .bool b19)] [] ?_ ?_
    · rcases sp q20 with ⟨g8, q20⟩ | ⟨g8, q20⟩
      · have c9 := ltT g8
        refine factS 0 rfl fun f10 => ?_
        obtain ⟨c11, q12, q20⟩ := bs q20
        obtain ⟨q13, q14⟩ := idx_ok q12
        obtain ⟨v15, q16, q20⟩ := bs q20
        obtain rfl := Option.some.inj q20
        refine st ?_
        simp [g8, q13, q14]
        have r28 := lexer_inner_ok c11 v15 q16
        try simp [g8, q13, q14] at r28
        refine callPure r28 (by simp) rfl ?_
        simp [g8, q13, q14]
      · have c17 := ltF g8
        refine factS 0 rfl fun f18 => ?_
        obtain rfl := Option.some.inj q20
        refine st ?_
        simp [g8]
    rcases sp l4 with ⟨g21, l4⟩ | ⟨g21, l4⟩
    · refine condT rfl g21 ?_
      refine awp_skip ?_
      refine seq_eq ?_
      refine awp_block ?_
      obtain ⟨n22, q23, l4⟩ := bs l4
      obtain ⟨q24, q25⟩ := chk_ok q23
      try simp at q24
      try simp at q25
      have c26 := q24; simp only [Rng, inR] at c26
      refine last 20 0 [(0, .str s1), (1, .fn (.func 27) [] []), (5, .int .i64 n22)] [] ?_ fun zz hs => ?_
      · refine st ?_
        simp [q24, q25]
      refine blk_n ?_
      exact ⟨(k7, n22), hs, ⟨l4, by (try dsimp only); omega⟩, by simp⟩
    · refine condF rfl g21 ?_
      refine awp_exit ?_
      refine exit_seq ?_
      have q27 := Option.some.inj l4
      have q27 := q27.symm
      refine exit_seq ?_
      refine exit_blk ?_
      refine seq_le (t := mkS 20 0 [(5, .int .i64 o3)] []) ?_ (le_mkS (by simp [q27]))
      refine cut 20 0 [(4, .int .i64 o3)] [] ?_ ?_
      · refine st ?_
        simp
      refine awp_ret ?_
      obtain rfl := Option.some.inj h
      simp
end Go.Proofs.YthbjlmoaceaeeaaDoor
set_option linter.unusedVariables false
set_option linter.unusedSimpArgs false
set_option maxRecDepth 100000
set_option maxHeartbeats 1000000
namespace Go.Proofs.YthbjlmoaceaeeaaDoor
open Go Go.Abs
theorem lexer_Keyword_ok (s1 : (List UInt8)) (r : Bool) (h : M.lexer_Keyword s1 = some r) : Pure Tryd.prog 28 [.str s1] (.bool r) := by
  rw [M.lexer_Keyword] at h
  refine pure_of_body Tryd.func28 (by rfl) (by rfl) (by simp) (by simp) (by simp) ?_
  refine cut 36 0 [(0, .str s1)] [] ?_ ?_
  · refine st ?_
    simp
  refine awp_seq ?_
  refine cut 36 0 [(3, .str s1)] [] ?_ ?_
  · refine st ?_
    simp
  refine awp_block ?_
  refine awp_seq ?_
  refine cut 36 0 [(3, .str s1), (4, .bool (eqS s1 [97, 110, 100, 97, 108, 115, 111]))] [] ?_ ?_
  · refine st ?_
    simp
  rcases sp h with ⟨g2, h⟩ | ⟨g2, h⟩
  · refine condT rfl g2 ?_
    refine awp_skip ?_
    refine seq_eq ?_
    refine condT rfl (by simp [g2]) ?_
    refine cut 36 0 [(2, .bool true)] [] ?_ ?_
    · refine st ?_
      simp
    refine awp_ret ?_
    refine ret_blk ?_
    refine ret_seq ?_
    obtain rfl := Option.some.inj h
    simp
  · refine condF rfl g2 ?_
    refine cut 36 0 [(3, .str s1), (4, .bool (eqS s1 [99, 97, 115, 101]))] [] ?_ ?_
    · refine st ?_
      simp
    rcases sp h with ⟨g3, h⟩ | ⟨g3, h⟩
    · refine condT rfl g3 ?_
      refine awp_skip ?_
      refine seq_eq ?_
      refine condT rfl (by simp [g3]) ?_
      refine cut 36 0 [(2, .bool true)] [] ?_ ?_
      · refine st ?_
        simp
      refine awp_ret ?_
      refine ret_blk ?_
      refine ret_seq ?_
      obtain rfl := Option.some.inj h
      simp
    · refine condF rfl g3 ?_
      refine cut 36 0 [(3, .str s1), (4, .bool (eqS s1 [100, 97, 116, 97]))] [] ?_ ?_
      · refine st ?_
        simp
      rcases sp h with ⟨g4, h⟩ | ⟨g4, h⟩
      · refine condT rfl g4 ?_
        refine awp_skip ?_
        refine seq_eq ?_
        refine condT rfl (by simp [g4]) ?_
        refine cut 36 0 [(2, .bool true)] [] ?_ ?_
        · refine st ?_
          simp
        refine awp_ret ?_
        refine ret_blk ?_
        refine ret_seq ?_
        obtain rfl := Option.some.inj h
        simp
      · refine condF rfl g4 ?_
        refine cut 36 0 [(3, .str s1), (4, .bool (eqS s1 [100, 105, 118]))] [] ?_ ?_
        · refine st ?_
          simp
        rcases sp h with ⟨g5, h⟩ | ⟨g5, h⟩
        · refine condT rfl g5 ?_
          refine awp_skip ?_
          refine seq_eq ?_
          refine condT rfl (by simp [g5]) ?_
          refine cut 36 0 [(2, .bool true)] [] ?_ ?_
          · refine st ?_
            simp
          refine awp_ret ?_
          refine ret_blk ?_
          refine ret_seq ?_
          obtain rfl := Option.some.inj h
          simp
        · refine condF rfl g5 ?_
          refine cut 36 0 [(3, .str s1), (4, .bool (eqS s1 [101, 108, 115, 101]))] [] ?_ ?_
          · refine st ?_
            simp
          rcases sp h with ⟨g6, h⟩ | ⟨g6, h⟩
          · refine condT rfl g6 ?_
            refine awp_skip ?_
            refine seq_eq ?_
            refine condT rfl (by simp [g6]) ?_
            refine cut 36 0 [(2, .bool true)] [] ?_ ?_
            · refine st ?_
              simp
            refine awp_ret ?_
            refine ret_blk ?_
            refine ret_seq ?_
            obtain rfl := Option.some.inj h
            simp
          · refine condF rfl g6 ?_
            refine cut 36 0 [(3, .str s1), (4, .bool (eqS s1 [101, 110, 100]))] [] ?_ ?_
            · refine st ?_
              simp
            rcases sp h with ⟨g7, h⟩ | ⟨g7, h⟩
            · refine condT rfl g7 ?_
              refine awp_skip ?_
              refine seq_eq ?_
              refine condT rfl (by simp [g7]) ?_
              refine cut 36 0 [(2, .bool true)] [] ?_ ?_
              · refine st ?_
                simp
              refine awp_ret ?_
              refine ret_blk ?_
              refine ret_seq ?_
              obtain rfl := Option.some.inj h
              simp
            · refine condF rfl g7 ?_
              refine cut 36 0 [(3, .str s1), (4, .bool (eqS s1 [102, 110]))] [] ?_ ?_
              · refine st ?_
                simp
              rcases sp h with ⟨g8, h⟩ | ⟨g8, h⟩
              · refine condT rfl g8 ?_
                refine awp_skip ?_
                refine seq_eq ?_
                refine condT rfl (by simp [g8]) ?_
                refine cut 36 0 [(2, .bool true)] [] ?_ ?_
                · refine st ?_
                  simp
                refine awp_ret ?_
                refine ret_blk ?_
                refine ret_seq ?_
                obtain rfl := Option.some.inj h
                simp
              · refine condF rfl g8 ?_
                refine cut 36 0 [(3, .str s1), (4, .bool (eqS s1 [102, 117, 110]))] [] ?_ ?_
                · refine st ?_
                  simp
                rcases sp h with ⟨g9, h⟩ | ⟨g9, h⟩
                · refine condT rfl g9 ?_
                  refine awp_skip ?_
                  refine seq_eq ?_
                  refine condT rfl (by simp [g9]) ?_
                  refine cut 36 0 [(2, .bool true)] [] ?_ ?_
                  · refine st ?_
                    simp
                  refine awp_ret ?_
                  refine ret_blk ?_
                  refine ret_seq ?_
                  obtain rfl := Option.some.inj h
                  simp
                · refine condF rfl g9 ?_
                  refine cut 36 0 [(3, .str s1), (4, .bool (eqS s1 [102, 117, 110, 99, 116, 111, 114]))] [] ?_ ?_
                  · refine st ?_
                    simp
                  rcases sp h with ⟨g10, h⟩ | ⟨g10, h⟩
                  · refine condT rfl g10 ?_
                    refine awp_skip ?_
                    refine seq_eq ?_
                    refine condT rfl (by simp [g10]) ?_
                    refine cut 36 0 [(2, .bool true)] [] ?_ ?_
                    · refine st ?_
                      simp
                    refine awp_ret ?_
                    refine ret_blk ?_
                    refine ret_seq ?_
                    obtain rfl := Option.some.inj h
                    simp
                  · refine condF rfl g10 ?_
                    refine cut 36 0 [(3, .str s1), (4, .bool (eqS s1 [103, 101, 110, 101, 114, 97, 116, 105, 118, 101]))] [] ?_ ?_
                    · refine st ?_
                      simp
                    rcases sp h with ⟨g11, h⟩ | ⟨g11, h⟩
                    · refine condT rfl g11 ?_
                      refine awp_skip ?_
                      refine seq_eq ?_
                      refine condT rfl (by simp [g11]) ?_
                      refine cut 36 0 [(2, .bool true)] [] ?_ ?_
                      · refine st ?_
                        simp
                      refine awp_ret ?_
                      refine ret_blk ?_
                      refine ret_seq ?_
                      obtain rfl := Option.some.inj h
                      simp
                    · refine condF rfl g11 ?_
                      refine cut 36 0 [(3, .str s1), (4, .bool (eqS s1 [105, 102]))] [] ?_ ?_
                      · refine st ?_
                        simp
                      rcases sp h with ⟨g12, h⟩ | ⟨g12, h⟩
                      · refine condT rfl g12 ?_
                        refine awp_skip ?_
                        refine seq_eq ?_
                        refine condT rfl (by simp [g12]) ?_
                        refine cut 36 0 [(2, .bool true)] [] ?_ ?_
                        · refine st ?_
                          simp
                        refine awp_ret ?_
                        refine ret_blk ?_
                        refine ret_seq ?_
                        obtain rfl := Option.some.inj h
                        simp
                      · refine condF rfl g12 ?_
                        refine cut 36 0 [(3, .str s1), (4, .bool (eqS s1 [105, 109, 112, 111, 114, 116]))] [] ?_ ?_
                        · refine st ?_
                          simp
                        rcases sp h with ⟨g13, h⟩ | ⟨g13, h⟩
                        · refine condT rfl g13 ?_
                          refine awp_skip ?_
                          refine seq_eq ?_
                          refine condT rfl (by simp [g13]) ?_
                          refine cut 36 0 [(2, .bool true)] [] ?_ ?_
                          · refine st ?_
                            simp
                          refine awp_ret ?_
                          refine ret_blk ?_
                          refine ret_seq ?_
                          obtain rfl := Option.some.inj h
                          simp
                        · refine condF rfl g13 ?_
                          refine cut 36 0 [(3, .str s1), (4, .bool (eqS s1 [105, 110]))] [] ?_ ?_
                          · refine st ?_
                            simp
                          rcases sp h with ⟨g14, h⟩ | ⟨g14, h⟩
                          · refine condT rfl g14 ?_
                            refine awp_skip ?_
                            refine seq_eq ?_
                            refine condT rfl (by simp [g14]) ?_
                            refine cut 36 0 [(2, .bool true)] [] ?_ ?_
                            · refine st ?_
                              simp
                            refine awp_ret ?_
                            refine ret_blk ?_
                            refine ret_seq ?_
                            obtain rfl := Option.some.inj h
                            simp
                          · refine condF rfl g14 ?_
                            refine cut 36 0 [(3, .str s1), (4, .bool (eqS s1 [105, 110, 99, 108, 117, 100, 101]))] [] ?_ ?_
                            · refine st ?_
                              simp
                            rcases sp h with ⟨g15, h⟩ | ⟨g15, h⟩
                            · refine condT rfl g15 ?_
                              refine awp_skip ?_
                              refine seq_eq ?_
                              refine condT rfl (by simp [g15]) ?_
                              refine cut 36 0 [(2, .bool true)] [] ?_ ?_
                              · refine st ?_
                                simp
                              refine awp_ret ?_
                              refine ret_blk ?_
                              refine ret_seq ?_
                              obtain rfl := Option.some.inj h
                              simp
                            · refine condF rfl g15 ?_
                              refine cut 36 0 [(3, .str s1), (4, .bool (eqS s1 [108, 101, 116]))] [] ?_ ?_
                              · refine st ?_
                                simp
                              rcases sp h with ⟨g16, h⟩ | ⟨g16, h⟩
                              · refine condT rfl g16 ?_
                                refine awp_skip ?_
                                refine seq_eq ?_
                                refine condT rfl (by simp [g16]) ?_
                                refine cut 36 0 [(2, .bool true)] [] ?_ ?_
                                · refine st ?_
                                  simp
                                refine awp_ret ?_
                                refine ret_blk ?_
                                refine ret_seq ?_
                                obtain rfl := Option.some.inj h
                                simp
                              · refine condF rfl g16 ?_
                                refine cut 36 0 [(3, .str s1), (4, .bool (eqS s1 [109, 111, 100]))] [] ?_ ?_
                                · refine st ?_
                                  simp
                                rcases sp h with ⟨g17, h⟩ | ⟨g17, h⟩
                                · refine condT rfl g17 ?_
                                  refine awp_skip ?_
                                  refine seq_eq ?_
                                  refine condT rfl (by simp [g17]) ?_
                                  refine cut 36 0 [(2, .bool true)] [] ?_ ?_
                                  · refine st ?_
                                    simp
                                  refine awp_ret ?_
                                  refine ret_blk ?_
                                  refine ret_seq ?_
                                  obtain rfl := Option.some.inj h
                                  simp
                                · refine condF rfl g17 ?_
                                  refine cut 36 0 [(3, .str s1), (4, .bool (eqS s1 [109, 111, 100, 117, 108, 101]))] [] ?_ ?_
                                  · refine st ?_
                                    simp
                                  rcases sp h with ⟨g18, h⟩ | ⟨g18, h⟩
                                  · refine condT rfl g18 ?_
                                    refine awp_skip ?_
                                    refine seq_eq ?_
                                    refine condT rfl (by simp [g18]) ?_
                                    refine cut 36 0 [(2, .bool true)] [] ?_ ?_
                                    · refine st ?_
                                      simp
                                    refine awp_ret ?_
                                    refine ret_blk ?_
                                    refine ret_seq ?_
                                    obtain rfl := Option.some.inj h
                                    simp
                                  · refine condF rfl g18 ?_
                                    refine cut 36 0 [(3, .str s1), (4, .bool (eqS s1 [111, 102]))] [] ?_ ?_
                                    · refine st ?_
                                      simp
                                    rcases sp h with ⟨g19, h⟩ | ⟨g19, h⟩
                                    · refine condT rfl g19 ?_
                                      refine awp_skip ?_
                                      refine seq_eq ?_
                                      refine condT rfl (by simp [g19]) ?_
                                      refine cut 36 0 [(2, .bool true)] [] ?_ ?_
                                      · refine st ?_
                                        simp
                                      refine awp_ret ?_
                                      refine ret_blk ?_
                                      refine ret_seq ?_
                                      obtain rfl := Option.some.inj h
                                      simp
                                    · refine condF rfl g19 ?_
                                      refine cut 36 0 [(3, .str s1), (4, .bool (eqS s1 [111, 112, 101, 110]))] [] ?_ ?_
                                      · refine st ?_
                                        simp
                                      rcases sp h with ⟨g20, h⟩ | ⟨g20, h⟩
                                      · refine condT rfl g20 ?_
                                        refine awp_skip ?_
                                        refine seq_eq ?_
                                        refine condT rfl (by simp [g20]) ?_
                                        refine cut 36 0 [(2, .bool true)] [] ?_ ?_
                                        · refine st ?_
                                          simp
                                        refine awp_ret ?_
                                        refine ret_blk ?_
                                        refine ret_seq ?_
                                        obtain rfl := Option.some.inj h
                                        simp
                                      · refine condF rfl g20 ?_
                                        refine cut 36 0 [(3, .str s1), (4, .bool (eqS s1 [111, 114, 101, 108, 115, 101]))] [] ?_ ?_
                                        · refine st ?_
                                          simp
                                        rcases sp h with ⟨g21, h⟩ | ⟨g21, h⟩
                                        · refine condT rfl g21 ?_
                                          refine awp_skip ?_
                                          refine seq_eq ?_
                                          refine condT rfl (by simp [g21]) ?_
                                          refine cut 36 0 [(2, .bool true)] [] ?_ ?_
                                          · refine st ?_
                                            simp
                                          refine awp_ret ?_
                                          refine ret_blk ?_
                                          refine ret_seq ?_
                                          obtain rfl := Option.some.inj h
                                          simp
                                        · refine condF rfl g21 ?_
                                          refine cut 36 0 [(3, .str s1), (4, .bool (eqS s1 [112, 97, 99, 107]))] [] ?_ ?_
                                          · refine st ?_
                                            simp
                                          rcases sp h with ⟨g22, h⟩ | ⟨g22, h⟩
                                          · refine condT rfl g22 ?_
                                            refine awp_skip ?_
                                            refine seq_eq ?_
                                            refine condT rfl (by simp [g22]) ?_
                                            refine cut 36 0 [(2, .bool true)] [] ?_ ?_
                                            · refine st ?_
                                              simp
                                            refine awp_ret ?_
                                            refine ret_blk ?_
                                            refine ret_seq ?_
                                            obtain rfl := Option.some.inj h
                                            simp
                                          · refine condF rfl g22 ?_
                                            refine cut 36 0 [(3, .str s1), (4, .bool (eqS s1 [115, 104, 97, 114, 105, 110, 103]))] [] ?_ ?_
                                            · refine st ?_
                                              simp
                                            rcases sp h with ⟨g23, h⟩ | ⟨g23, h⟩
                                            · refine condT rfl g23 ?_
                                              refine awp_skip ?_
                                              refine seq_eq ?_
                                              refine condT rfl (by simp [g23]) ?_
                                              refine cut 36 0 [(2, .bool true)] [] ?_ ?_
                                              · refine st ?_
                                                simp
                                              refine awp_ret ?_
                                              refine ret_blk ?_
                                              refine ret_seq ?_
                                              obtain rfl := Option.some.inj h
                                              simp
                                            · refine condF rfl g23 ?_
                                              refine cut 36 0 [(3, .str s1), (4, .bool (eqS s1 [115, 105, 103]))] [] ?_ ?_
                                              · refine st ?_
                                                simp
                                              rcases sp h with ⟨g24, h⟩ | ⟨g24, h⟩
                                              · refine condT rfl g24 ?_
                                                refine awp_skip ?_
                                                refine seq_eq ?_
                                                refine condT rfl (by simp [g24]) ?_
                                                refine cut 36 0 [(2, .bool true)] [] ?_ ?_
                                                · refine st ?_
                                                  simp
                                                refine awp_ret ?_
                                                refine ret_blk ?_
                                                refine ret_seq ?_
                                                obtain rfl := Option.some.inj h
                                                simp
                                              · refine condF rfl g24 ?_
                                                refine cut 36 0 [(3, .str s1), (4, .bool (eqS s1 [115, 105, 103, 110, 97, 116, 117, 114, 101]))] [] ?_ ?_
                                                · refine st ?_
                                                  simp
                                                rcases sp h with ⟨g25, h⟩ | ⟨g25, h⟩
                                                · refine condT rfl g25 ?_
                                                  refine awp_skip ?_
                                                  refine seq_eq ?_
                                                  refine condT rfl (by simp [g25]) ?_
                                                  refine cut 36 0 [(2, .bool true)] [] ?_ ?_
                                                  · refine st ?_
                                                    simp
                                                  refine awp_ret ?_
                                                  refine ret_blk ?_
                                                  refine ret_seq ?_
                                                  obtain rfl := Option.some.inj h
                                                  simp
                                                · refine condF rfl g25 ?_
                                                  refine cut 36 0 [(3, .str s1), (4, .bool (eqS s1 [115, 116, 114, 117, 99, 116]))] [] ?_ ?_
                                                  · refine st ?_
                                                    simp
                                                  rcases sp h with ⟨g26, h⟩ | ⟨g26, h⟩
                                                  · refine condT rfl g26 ?_
                                                    refine awp_skip ?_
                                                    refine seq_eq ?_
                                                    refine condT rfl (by simp [g26]) ?_
                                                    refine cut 36 0 [(2, .bool true)] [] ?_ ?_
                                                    · refine st ?_
                                                      simp
                                                    refine awp_ret ?_
                                                    refine ret_blk ?_
                                                    refine ret_seq ?_
                                                    obtain rfl := Option.some.inj h
                                                    simp
                                                  · refine condF rfl g26 ?_
                                                    refine cut 36 0 [(3, .str s1), (4, .bool (eqS s1 [115, 116, 114, 117, 99, 116, 117, 114, 101]))] [] ?_ ?_
                                                    · refine st ?_
                                                      simp
                                                    rcases sp h with ⟨g27, h⟩ | ⟨g27, h⟩
                                                    · refine condT rfl g27 ?_
                                                      refine awp_skip ?_
                                                      refine seq_eq ?_
                                                      refine condT rfl (by simp [g27]) ?_
                                                      refine cut 36 0 [(2, .bool true)] [] ?_ ?_
                                                      · refine st ?_
                                                        simp
                                                      refine awp_ret ?_
                                                      refine ret_blk ?_
                                                      refine ret_seq ?_
                                                      obtain rfl := Option.some.inj h
                                                      simp
                                                    · refine condF rfl g27 ?_
                                                      refine cut 36 0 [(3, .str s1), (4, .bool (eqS s1 [116, 104, 101, 110]))] [] ?_ ?_
                                                      · refine st ?_
                                                        simp
                                                      rcases sp h with ⟨g28, h⟩ | ⟨g28, h⟩
                                                      · refine condT rfl g28 ?_
                                                        refine awp_skip ?_
                                                        refine seq_eq ?_
                                                        refine condT rfl (by simp [g28]) ?_
                                                        refine cut 36 0 [(2, .bool true)] [] ?_ ?_
                                                        · refine st ?_
                                                          simp
                                                        refine awp_ret ?_
                                                        refine ret_blk ?_
                                                        refine ret_seq ?_
                                                        obtain rfl := Option.some.inj h
                                                        simp
                                                      · refine condF rfl g28 ?_
                                                        refine cut 36 0 [(3, .str s1), (4, .bool (eqS s1 [116, 121, 112, 101]))] [] ?_ ?_
                                                        · refine st ?_
                                                          simp
                                                        rcases sp h with ⟨g29, h⟩ | ⟨g29, h⟩
                                                        · refine condT rfl g29 ?_
                                                          refine awp_skip ?_
                                                          refine seq_eq ?_
                                                          refine condT rfl (by simp [g29]) ?_
                                                          refine cut 36 0 [(2, .bool true)] [] ?_ ?_
                                                          · refine st ?_
                                                            simp
                                                          refine awp_ret ?_
                                                          refine ret_blk ?_
                                                          refine ret_seq ?_
                                                          obtain rfl := Option.some.inj h
                                                          simp
                                                        · refine condF rfl g29 ?_
                                                          refine cut 36 0 [(3, .str s1), (4, .bool (eqS s1 [117, 110, 112, 97, 99, 107]))] [] ?_ ?_
                                                          · refine st ?_
                                                            simp
                                                          rcases sp h with ⟨g30, h⟩ | ⟨g30, h⟩
                                                          · refine condT rfl g30 ?_
                                                            refine awp_skip ?_
                                                            refine seq_eq ?_
                                                            refine condT rfl (by simp [g30]) ?_
                                                            refine cut 36 0 [(2, .bool true)] [] ?_ ?_
                                                            · refine st ?_
                                                              simp
                                                            refine awp_ret ?_
                                                            refine ret_blk ?_
                                                            refine ret_seq ?_
                                                            obtain rfl := Option.some.inj h
                                                            simp
                                                          · refine condF rfl g30 ?_
                                                            refine cut 36 0 [(3, .str s1), (4, .bool (eqS s1 [118, 97, 108]))] [] ?_ ?_
                                                            · refine st ?_
                                                              simp
                                                            rcases sp h with ⟨g31, h⟩ | ⟨g31, h⟩
                                                            · refine condT rfl g31 ?_
                                                              refine awp_skip ?_
                                                              refine seq_eq ?_
                                                              refine condT rfl (by simp [g31]) ?_
                                                              refine cut 36 0 [(2, .bool true)] [] ?_ ?_
                                                              · refine st ?_
                                                                simp
                                                              refine awp_ret ?_
                                                              refine ret_blk ?_
                                                              refine ret_seq ?_
                                                              obtain rfl := Option.some.inj h
                                                              simp
                                                            · refine condF rfl g31 ?_
                                                              refine last 36 0 [(4, .bool (eqS s1 [119, 105, 116, 104]))] [] ?_ fun zz hs => ?_
                                                              · refine st ?_
                                                                simp
                                                              refine seq_le ?_ hs
                                                              rcases sp h with ⟨g32, h⟩ | ⟨g32, h⟩
                                                              · refine condT rfl g32 ?_
                                                                refine cut 36 0 [(2, .bool true)] [] ?_ ?_
                                                                · refine st ?_
                                                                  simp
                                                                refine awp_ret ?_
                                                                refine ret_blk ?_
                                                                refine ret_seq ?_
                                                                obtain rfl := Option.some.inj h
                                                                simp
                                                              · refine condF rfl g32 ?_
                                                                refine awp_skip ?_
                                                                refine blk_n ?_
                                                                refine seq_eq ?_
                                                                refine cut 36 0 [(2, .bool false)] [] ?_ ?_
                                                                · refine st ?_
                                                                  simp
                                                                refine awp_ret ?_
                                                                obtain rfl := Option.some.inj h
                                                                simp
end Go.Proofs.YthbjlmoaceaeeaaDoor
set_option linter.unusedVariables false
set_option linter.unusedSimpArgs false
set_option maxRecDepth 100000
set_option maxHeartbeats 1000000
namespace Go.Proofs.YthbjlmoaceaeeaaDoor
open Go Go.Abs
theorem lexer_scanner_token_1_ok (kind1 : Int) (n2 : Int) (text3 : (List UInt8)) (w4 : Lexer.scanner) (r : Api.Token × Int × Int × Lexer.scanner) (h : M.lexer_scanner_token_1 kind1 n2 text3 w4 = some r) : Raw Tryd.prog 22 [.int .i64 kind1, .int .i64 n2, .str text3, .mptr 0 0] [[.mptr 1 0], [.str w4.s, .int .i64 w4.at_]] (.tup [.agg [.int .i64 r.1.Kind, .str r.1.Text, .int .i64 r.1.At.Line, .int .i64 r.1.At.Column], .int .i64 r.2.1, .int .i64 r.2.2.1]) [[.mptr 1 0], [.str r.2.2.2.s, .int .i64 r.2.2.2.at_]] := by
  rw [M.lexer_scanner_token_1] at h
  refine raw_of_bodyB Tryd.func22 (by rfl) (by rfl) (by simp) (by simp) ?_
  refine cut 21 2 [(0, .int .i64 kind1), (1, .int .i64 n2), (2, .str text3), (3, .mptr 0 0), (7, .mptr 2 0)] [[.mptr 1 0], [.str w4.s, .int .i64 w4.at_], [.int .i64 0, .str ([] : List UInt8), .int .i64 0, .int .i64 0]] ?_ ?_
  · refine st ?_
    simp
  obtain ⟨n5, q6, h⟩ := bs h
  obtain ⟨q7, q8⟩ := chk_ok q6
  try simp at q7
  try simp at q8
  have c9 := q7; simp only [Rng, inR] at c9
  refine cut 21 2 [(0, .int .i64 kind1), (2, .str text3), (7, .mptr 2 0)] [[.mptr 1 0], [.str w4.s, .int .i64 n5], [.int .i64 0, .str ([] : List UInt8), .int .i64 0, .int .i64 0]] ?_ ?_
  · refine st ?_
    simp [q7, q8]
  refine cut 21 2 [(7, .mptr 2 0), (8, .int .i64 0), (9, .int .i64 0)] [[.mptr 1 0], [.str w4.s, .int .i64 n5], [.int .i64 kind1, .str text3, .int .i64 0, .int .i64 0]] ?_ ?_
  · refine st ?_
    simp
  refine awp_ret ?_
  obtain rfl := Option.some.inj h
  simp
end Go.Proofs.YthbjlmoaceaeeaaDoor
set_option linter.unusedVariables false
set_option linter.unusedSimpArgs false
set_option maxRecDepth 100000
set_option maxHeartbeats 1000000
namespace Go.Proofs.YthbjlmoaceaeeaaDoor
open Go Go.Abs
theorem lexer_scanner_token_2_ok (by1 : Int) (e2 : Int) (w3 : Lexer.scanner) (r : Api.Token × Int × Int) (h : M.lexer_scanner_token_2 by1 e2 w3 = some r) : Raw Tryd.prog 23 [.int .i64 by1, .int .i64 e2, .mptr 0 0] [[.mptr 1 0], [.str w3.s, .int .i64 w3.at_]] (.tup [.agg [.int .i64 r.1.Kind, .str r.1.Text, .int .i64 r.1.At.Line, .int .i64 r.1.At.Column], .int .i64 r.2.1, .int .i64 r.2.2]) [[.mptr 1 0], [.str w3.s, .int .i64 w3.at_]] := by
  rw [M.lexer_scanner_token_2] at h
  refine raw_of_bodyB Tryd.func23 (by rfl) (by rfl) (by simp) (by simp) ?_
  refine cut 16 2 [(0, .int .i64 by1), (1, .int .i64 e2), (2, .mptr 0 0), (5, .mptr 2 0)] [[.mptr 1 0], [.str w3.s, .int .i64 w3.at_], [.int .i64 0, .str ([] : List UInt8), .int .i64 0, .int .i64 0]] ?_ ?_
  · refine st ?_
    simp
  obtain ⟨n4, q5, h⟩ := bs h
  obtain ⟨q6, q7⟩ := chk_ok q5
  try simp at q6
  try simp at q7
  have c8 := q6; simp only [Rng, inR] at c8
  refine cut 16 2 [(5, .mptr 2 0), (6, .int .i64 n4), (7, .int .i64 e2)] [[.mptr 1 0], [.str w3.s, .int .i64 w3.at_], [.int .i64 0, .str ([] : List UInt8), .int .i64 0, .int .i64 0]] ?_ ?_
  · refine awp_region_draw [2] mixed (n := 16) rfl (by decide) ?_
    simp [q6, q7]
  refine awp_ret ?_
  obtain rfl := Option.some.inj h
  simp
end Go.Proofs.YthbjlmoaceaeeaaDoor
set_option linter.unusedVariables false
set_option linter.unusedSimpArgs false
set_option maxRecDepth 100000
set_option maxHeartbeats 1000000
namespace Go.Proofs.YthbjlmoaceaeeaaDoor
open Go Go.Abs
theorem lexer_length_digit_ok (fuel : Nat) (s1 : (List UInt8)) (r : Int) (h : M.lexer_length_digit fuel s1 = some r) : Pure Tryd.prog 26 [.str s1, .fn (.func 29) [] []] (.int .i64 r) := by
  rw [M.lexer_length_digit] at h
  refine pure_of_body Tryd.func26 (by rfl) (by rfl) (by simp) (by simp) (by simp) ?_
  refine cut 20 0 [(0, .str s1), (1, .fn (.func 29) [] [])] [] ?_ ?_
  · refine st ?_
    simp
  refine cut 20 0 [(0, .str s1), (1, .fn (.func 29) [] []), (5, .int .i64 0)] [] ?_ ?_
  · refine st ?_
    simp
  refine awp_seq ?_
  refine awp_block ?_
  obtain ⟨o3, l4, h⟩ := bs h
  refine awp_inv (fun p : Nat × Int => mkS 20 0 [(0, .str s1), (1, .fn (.func 29) [] []), (5, .int .i64 p.2)] []) (fun p => M.lexer_length_digit_l1 s1 p.1 p.2 = some o3 ∧ 0 ≤ p.2) (fun p => p.1) (fuel, 0) ⟨l4, by (try dsimp only); omega⟩ (le_mkS (by simp)) ?_
  rintro ⟨k6, n2⟩ ⟨l4, c5⟩
  dsimp only at l4 c5 ⊢
  cases k6 with
  | zero =>
    rw [M.lexer_length_digit_l1] at l4; cases l4
  | succ k7 =>
    rw [M.lexer_length_digit_l1] at l4
    refine awp_seq ?_
    obtain ⟨b19, q20, l4⟩ := bs l4
    refine cut 20 0 [(0, .str s1), (1, .fn (.func 29) [] []), (5, .int .i64 n2), (16, .bool b19)] [] ?_ ?_
    · rcases sp q20 with ⟨g8, q20⟩ | ⟨g8, q20⟩
      · have c9 := ltT g8
        refine factS 0 rfl fun f10 => ?_
        obtain ⟨c11, q12, q20⟩ := bs q20
        obtain ⟨q13, q14⟩ := idx_ok q12
        obtain ⟨v15, q16, q20⟩ := bs q20
        obtain rfl := Option.some.inj q20
        refine st ?_
        simp [g8, q13, q14]
        have r28 := lexer_digit_ok c11 v15 q16
        try simp [g8, q13, q14] at r28
        refine callPure r28 (by simp) rfl ?_
        simp [g8, q13, q14]
      · have c17 := ltF g8
        refine factS 0 rfl fun f18 => ?_
        obtain rfl := Option.some.inj q20
        refine st ?_
        simp [g8]
    rcases sp l4 with ⟨g21, l4⟩ | ⟨g21, l4⟩
    · refine condT rfl g21 ?_
      refine awp_skip ?_
      refine seq_eq ?_
      refine awp_block ?_
      obtain ⟨n22, q23, l4⟩ := bs l4
      obtain ⟨q24, q25⟩ := chk_ok q23
      try simp at q24
      try simp at q25
      have c26 := q24; simp only [Rng, inR] at c26
      refine last 20 0 [(0, .str s1), (1, .fn (.func 29) [] []), (5, .int .i64 n22)] [] ?_ fun zz hs => ?_
      · refine st ?_
        simp [q24, q25]
      refine blk_n ?_
      exact ⟨(k7, n22), hs, ⟨l4, by (try dsimp only); omega⟩, by simp⟩
    · refine condF rfl g21 ?_
      refine awp_exit ?_
      refine exit_seq ?_
      have q27 := Option.some.inj l4
      have q27 := q27.symm
      refine exit_seq ?_
      refine exit_blk ?_
      refine seq_le (t := mkS 20 0 [(5, .int .i64 o3)] []) ?_ (le_mkS (by simp [q27]))
      refine cut 20 0 [(4, .int .i64 o3)] [] ?_ ?_
      · refine st ?_
        simp
      refine awp_ret ?_
      obtain rfl := Option.some.inj h
      simp
end Go.Proofs.YthbjlmoaceaeeaaDoor
set_option linter.unusedVariables false
set_option linter.unusedSimpArgs false
set_option maxRecDepth 100000
set_option maxHeartbeats 1000000
namespace Go.Proofs.YthbjlmoaceaeeaaDoor
open Go Go.Abs
theorem lexer_number_ok (fuel : Nat) (s1 : (List UInt8)) (r : Int) (h : M.lexer_number fuel s1 = some r) : Pure Tryd.prog 30 [.str s1] (.int .i64 r) := by
  rw [M.lexer_number] at h
  refine pure_of_body Tryd.func30 (by rfl) (by rfl) (by simp) (by simp) (by simp) ?_
  refine cut 29 0 [(0, .str s1)] [] ?_ ?_
  · refine st ?_
    simp
  refine awp_seq ?_
  obtain ⟨b9, q10, h⟩ := bs h
  refine cut 29 0 [(0, .str s1), (12, .bool b9)] [] ?_ ?_
  · rcases sp q10 with ⟨g2, q10⟩ | ⟨g2, q10⟩
    · have c3 := ltT g2
      refine factS 0 rfl fun f4 => ?_
      obtain ⟨c5, q6, q10⟩ := bs q10
      obtain rfl := Option.some.inj q10
      refine st ?_
      simp [g2, q6]
    · have c7 := ltF g2
      refine factS 0 rfl fun f8 => ?_
      obtain rfl := Option.some.inj q10
      refine st ?_
      simp [g2]
  rcases sp h with ⟨g11, h⟩ | ⟨g11, h⟩
  · refine condT rfl g11 ?_
    refine cut 29 0 [(2, .int .i64 3)] [] ?_ ?_
    · refine st ?_
      simp
    refine awp_ret ?_
    refine ret_seq ?_
    obtain rfl := Option.some.inj h
    simp
  · refine condF rfl g11 ?_
    refine awp_skip ?_
    refine seq_eq ?_
    refine cut 29 0 [(0, .str s1), (3, .int .i64 0)] [] ?_ ?_
    · refine st ?_
      simp
    refine awp_seq ?_
    refine cut 29 0 [(0, .str s1), (3, .int .i64 0), (14, .int .i64 (s1.length : Int)), (15, .int .i64 0)] [] ?_ ?_
    · refine st ?_
      simp
    refine awp_block ?_
    obtain ⟨o15, l16, h⟩ := bs h
    refine awp_inv (fun p : Nat × Int × Nat => mkS 29 0 [(0, .str s1), (3, .int .i64 p.2.1), (14, .int .i64 (s1.length : Int)), (15, .int .i64 ((p.2.2 : Nat) : Int))] []) (fun p => M.lexer_number_l1 s1 p.1 p.2.1 p.2.2 = some o15) (fun p => p.1) (fuel, 0, 0) l16 (le_mkS (by simp)) ?_
    rintro ⟨k17, n12, i13⟩ l16
    dsimp only at l16 ⊢
    cases k17 with
    | zero =>
      rw [M.lexer_number_l1] at l16; cases l16
    | succ k18 =>
      rw [M.lexer_number_l1] at l16
      refine cut 29 0 [(0, .str s1), (3, .int .i64 n12), (14, .int .i64 (s1.length : Int)), (15, .int .i64 ((i13 : Nat) : Int)), (16, .bool (ltI ((i13 : Nat) : Int) (s1.length : Int)))] [] ?_ ?_
      · refine st ?_
        simp
      refine awp_seq ?_
      rcases sp l16 with ⟨g19, l16⟩ | ⟨g19, l16⟩
      · have c20 := ltT g19
        refine condT rfl g19 ?_
        refine factS 0 rfl fun f21 => ?_
        refine awp_skip ?_
        refine seq_eq ?_
        refine awp_seq ?_
        refine awp_block ?_
        refine cut 29 0 [(0, .str s1), (3, .int .i64 n12), (4, .int .i64 ((i13 : Nat) : Int)), (14, .int .i64 (s1.length : Int)), (15, .int .i64 ((i13 : Nat) : Int))] [] ?_ ?_
        · refine st ?_
          simp
        obtain ⟨n22, q23, l16⟩ := bs l16
        obtain ⟨q24, q25⟩ := chk_ok q23
        try simp at q24
        try simp at q25
        have c26 := q24; simp only [Rng, inR] at c26
        obtain ⟨c27, q28, l16⟩ := bs l16
        obtain ⟨n29, q30, l16⟩ := bs l16
        obtain ⟨q31, q32⟩ := chk_ok q30
        try simp at q31
        try simp at q32
        have c33 := q31; simp only [Rng, inR] at c33
        have q34 : Rng .i64 (n29) := by simp only [Rng, inR]; omega
        obtain ⟨n35, q36, l16⟩ := bs l16
        obtain ⟨q37, q38⟩ := chk_ok q36
        try simp at q37
        try simp at q38
        have c39 := q37; simp only [Rng, inR] at c39
        refine cut 29 0 [(0, .str s1), (3, .int .i64 n35), (14, .int .i64 (s1.length : Int)), (15, .int .i64 ((i13 : Nat) : Int))] [] ?_ ?_
        · refine st ?_
          simp [q24, q25, q28, q31, q32, q34, q37, q38]
        refine cut 29 0 [(0, .str s1), (3, .int .i64 n35), (14, .int .i64 (s1.length : Int)), (15, .int .i64 ((i13 : Nat) : Int)), (27, .bool (ltI 4503599627370496 n35))] [] ?_ ?_
        · refine st ?_
          simp
        rcases sp l16 with ⟨g40, l16⟩ | ⟨g40, l16⟩
        · have c41 := ltT g40
          refine condT rfl g40 ?_
          refine cut 29 0 [(2, .int .i64 6)] [] ?_ ?_
          · refine st ?_
            simp
          refine awp_ret ?_
          refine ret_blk ?_
          refine ret_seq ?_
          replace h := retL l16 h
          refine ret_seq ?_
          refine ret_blk ?_
          refine ret_seq ?_
          obtain rfl := Option.some.inj h
          simp
        · have c42 := ltF g40
          refine condF rfl g40 ?_
          refine awp_skip ?_
          refine blk_n ?_
          refine seq_eq ?_
          have q43 : Rng .i64 (((i13 : Nat) : Int) + 1) := by simp only [Rng, inR]; omega
          try simp at q43
          refine last 29 0 [(0, .str s1), (3, .int .i64 n35), (14, .int .i64 (s1.length : Int)), (15, .int .i64 ((i13 + 1 : Nat) : Int))] [] ?_ fun zz hs => ?_
          · refine st ?_
            simp [q43]
          exact ⟨(k18, n35, i13 + 1), hs, l16, by simp⟩
      · have c44 := ltF g19
        refine condF rfl g19 ?_
        refine factS 0 rfl fun f45 => ?_
        refine awp_exit ?_
        refine exit_seq ?_
        rcases o15 with o15 | o14
        · cases l16
        have q46 := Sum.inr.inj (Option.some.inj l16)
        replace h := elimR h
        refine exit_seq ?_
        refine exit_blk ?_
        refine seq_le (t := mkS 29 0 [] []) ?_ (le_mkS (by simp []))
        refine cut 29 0 [(2, .int .i64 0)] [] ?_ ?_
        · refine st ?_
          simp
        refine awp_ret ?_
        obtain rfl := Option.some.inj h
        simp
end Go.Proofs.YthbjlmoaceaeeaaDoor
set_option linter.unusedVariables false
set_option linter.unusedSimpArgs false
set_option maxRecDepth 100000
set_option maxHeartbeats 1000000
namespace Go.Proofs.YthbjlmoaceaeeaaDoor
open Go Go.Abs
theorem strings_Builder_WriteByte_ok (c1 : UInt8) (b2 : (List UInt8)) (r : (List UInt8)) (h : M.strings_Builder_WriteByte c1 b2 = some r) : Raw Tryd.prog 14 [.mptr 0 0, .int .u8 (c1.toNat : Int)] [[.baddr 50 0, .osl ⟨1, 5⟩ (b2.map cU)]] (.nilif) [[.baddr 50 0, .osl ⟨1, 5⟩ (r.map cU)]] := by
  rw [M.strings_Builder_WriteByte] at h
  refine raw_of_bodyB Tryd.func14 (by rfl) (by rfl) (by simp) (by simp) ?_
  refine cut 17 1 [(0, .mptr 0 0), (1, .int .u8 (c1.toNat : Int))] [[.baddr 50 0, .osl ⟨1, 5⟩ (b2.map cU)]] ?_ ?_
  · refine st ?_
    simp
  obtain ⟨v3, q4, h⟩ := bs h
  refine cut 17 1 [(0, .mptr 0 0), (1, .int .u8 (c1.toNat : Int))] [[.baddr 50 0, .osl ⟨1, 5⟩ (b2.map cU)]] ?_ ?_
  · refine st ?_
    simp
    have r9 := (strings_Builder_copyCheck_ok b2 v3 q4).frame [0] [[.baddr 50 0, .osl ⟨1, 5⟩ (b2.map cU)]] (by simp)
    try simp [] at r9
    refine callRaw r9 (by simp []) rfl ?_
    simp
  obtain ⟨l5, q6, h⟩ := bs h
  obtain ⟨q7, q8⟩ := app_ok q6
  try simp at q7
  refine cut 17 1 [] [[.baddr 50 0, .osl ⟨1, 5⟩ (l5.map cU)]] ?_ ?_
  · refine st ?_
    simp [q7, q8]
  refine cut 17 1 [(4, .nilif)] [[.baddr 50 0, .osl ⟨1, 5⟩ (l5.map cU)]] ?_ ?_
  · refine st ?_
    simp
  refine awp_ret ?_
  obtain rfl := Option.some.inj h
  simp
end Go.Proofs.YthbjlmoaceaeeaaDoor
set_option linter.unusedVariables false
set_option linter.unusedSimpArgs false
set_option maxRecDepth 100000
set_option maxHeartbeats 1000000
namespace Go.Proofs.YthbjlmoaceaeeaaDoor
open Go Go.Abs
theorem lexer_visible_ok (c1 : UInt8) (r : Bool) (h : M.lexer_visible c1 = some r) : Pure Tryd.prog 16 [.int .u8 (c1.toNat : Int)] (.bool r) := by
  rw [M.lexer_visible] at h
  refine pure_of_body Tryd.func16 (by rfl) (by rfl) (by simp) (by simp) (by simp) ?_
  refine cut 9 0 [(0, .int .u8 (c1.toNat : Int))] [] ?_ ?_
  · refine st ?_
    simp
  refine cut 9 0 [(2, .bool ((leI 32 (c1.toNat : Int)) && (leI (c1.toNat : Int) 126)))] [] ?_ ?_
  · rcases tf (leI 32 (c1.toNat : Int)) with g2 | g2
    · have c3 := leT g2
      refine st ?_
      simp [g2]
    · have c4 := leF g2
      refine st ?_
      simp [g2]
  refine awp_ret ?_
  obtain rfl := Option.some.inj h
  simp
end Go.Proofs.YthbjlmoaceaeeaaDoor
set_option linter.unusedVariables false
set_option linter.unusedSimpArgs false
set_option maxRecDepth 100000
set_option maxHeartbeats 1000000
namespace Go.Proofs.YthbjlmoaceaeeaaDoor
open Go Go.Abs
theorem lexer_literal_ok (fuel : Nat) (s1 : (List UInt8)) (r : (List UInt8) × Int × Int × Int) (h : M.lexer_literal fuel s1 = some r) : Pure Tryd.prog 31 [.str s1] (.tup [.str r.1, .int .i64 r.2.1, .int .i64 r.2.2.1, .int .i64 r.2.2.2]) := by
  rw [M.lexer_literal] at h
  refine pure_of_body Tryd.func31 (by rfl) (by rfl) (by simp) (by simp) (by simp) ?_
  refine cut 61 0 [(0, .str s1)] [] ?_ ?_
  · refine st ?_
    simp
  refine cut 61 0 [(0, .str s1), (6, .mptr 0 0)] [[.baddr 50 0, .osl ⟨1, 5⟩ (([] : List UInt8).map cU)]] ?_ ?_
  · refine st ?_
    simp
  refine awp_seq ?_
  refine cut 61 0 [(0, .str s1), (6, .mptr 0 0), (7, .int .i64 1)] [[.baddr 50 0, .osl ⟨1, 5⟩ (([] : List UInt8).map cU)]] ?_ ?_
  · refine st ?_
    simp
  refine awp_block ?_
  obtain ⟨o5, l6, h⟩ := bs h
  refine awp_inv (fun p : Nat × (List UInt8) × Nat => mkS 61 0 [(0, .str s1), (6, .mptr 0 0), (7, .int .i64 ((p.2.2 : Nat) : Int))] [[.baddr 50 0, .osl ⟨1, 5⟩ (p.2.1.map cU)]]) (fun p => M.lexer_literal_l1 s1 p.1 p.2.1 p.2.2 = some o5) (fun p => p.1) (fuel, ([] : List UInt8), 1) l6 (le_mkS (by simp)) ?_
  rintro ⟨k7, buf2, i3⟩ l6
  dsimp only at l6 ⊢
  cases k7 with
  | zero =>
    rw [M.lexer_literal_l1] at l6; cases l6
  | succ k8 =>
    rw [M.lexer_literal_l1] at l6
    refine awp_seq ?_
    refine cut 61 0 [(0, .str s1), (6, .mptr 0 0), (7, .int .i64 ((i3 : Nat) : Int)), (12, .bool (ltI ((i3 : Nat) : Int) (s1.length : Int)))] [[.baddr 50 0, .osl ⟨1, 5⟩ (buf2.map cU)]] ?_ ?_
    · refine st ?_
      simp
    rcases sp l6 with ⟨g9, l6⟩ | ⟨g9, l6⟩
    · have c10 := ltT g9
      refine condT rfl g9 ?_
      refine factS 0 rfl fun f11 => ?_
      refine awp_skip ?_
      refine seq_eq ?_
      refine awp_seq ?_
      refine awp_block ?_
      obtain ⟨c12, q13, l6⟩ := bs l6
      refine cut 61 0 [(0, .str s1), (6, .mptr 0 0), (7, .int .i64 ((i3 : Nat) : Int)), (8, .int .u8 (c12.toNat : Int))] [[.baddr 50 0, .osl ⟨1, 5⟩ (buf2.map cU)]] ?_ ?_
      · refine st ?_
        simp [q13]
      refine awp_block ?_
      refine cut 61 0 [(0, .str s1), (6, .mptr 0 0), (7, .int .i64 ((i3 : Nat) : Int)), (8, .int .u8 (c12.toNat : Int)), (20, .bool (eqI (c12.toNat : Int) 34))] [[.baddr 50 0, .osl ⟨1, 5⟩ (buf2.map cU)]] ?_ ?_
      · refine st ?_
        simp
      rcases sp l6 with ⟨g14, l6⟩ | ⟨g14, l6⟩
      · have c15 := eqT g14
        refine condT rfl g14 ?_
        obtain ⟨v16, q17, l6⟩ := bs l6
        have q18 : Rng .i64 (((i3 : Nat) : Int) + 1) := by simp only [Rng, inR]; omega
        try simp at q18
        refine cut 61 0 [(2, .str v16), (3, .int .i64 ((i3 + 1 : Nat) : Int)), (4, .int .i64 0), (5, .int .i64 0)] [[.baddr 50 0, .osl ⟨1, 5⟩ (buf2.map cU)]] ?_ ?_
        · refine st ?_
          simp [q18]
          have r19 := (strings_Builder_String_ok buf2 v16 q17).frame [0] [[.baddr 50 0, .osl ⟨1, 5⟩ (buf2.map cU)]] (by simp)
          try simp [q18] at r19
          refine callRaw r19 (by simp [q18]) rfl ?_
          simp [q18]
        refine awp_ret ?_
        refine ret_blk ?_
        refine ret_blk ?_
        refine ret_seq ?_
        replace h := retL l6 h
        refine ret_seq ?_
        refine ret_blk ?_
        refine ret_seq ?_
        obtain rfl := Option.some.inj h
        simp
      · have c20 := eqF g14
        refine condF rfl g14 ?_
        refine cut 61 0 [(0, .str s1), (6, .mptr 0 0), (7, .int .i64 ((i3 : Nat) : Int)), (8, .int .u8 (c12.toNat : Int)), (26, .bool ((eqI (c12.toNat : Int) 92) && (ltI ((i3 + 1 : Nat) : Int) (s1.length : Int))))] [[.baddr 50 0, .osl ⟨1, 5⟩ (buf2.map cU)]] ?_ ?_
        · rcases tf (eqI (c12.toNat : Int) 92) with g21 | g21
          · have c22 := eqT g21
            have q23 : Rng .i64 (((i3 : Nat) : Int) + 1) := by simp only [Rng, inR]; omega
            try simp at q23
            refine st ?_
            simp [g21, q23]
          · have c24 := eqF g21
            refine st ?_
            simp [g21]
        rcases sp l6 with ⟨g25, l6⟩ | ⟨g25, l6⟩
        · obtain ⟨g26, g27⟩ := andT g25
          have c28 := eqT g26
          have c29 := ltT g27
          refine condT rfl g25 ?_
          have q30 : Rng .i64 (((i3 : Nat) : Int) + 1) := by simp only [Rng, inR]; omega
          try simp at q30
          refine cut 61 0 [(0, .str s1), (6, .mptr 0 0), (7, .int .i64 ((i3 + 1 : Nat) : Int))] [[.baddr 50 0, .osl ⟨1, 5⟩ (buf2.map cU)]] ?_ ?_
          · refine st ?_
            simp [q30]
          obtain ⟨c31, q32, l6⟩ := bs l6
          refine cut 61 0 [(0, .str s1), (6, .mptr 0 0), (7, .int .i64 ((i3 + 1 : Nat) : Int)), (40, .int .u8 (c31.toNat : Int))] [[.baddr 50 0, .osl ⟨1, 5⟩ (buf2.map cU)]] ?_ ?_
          · refine st ?_
            simp [q32]
          refine awp_block ?_
          refine awp_seq ?_
          refine cut 61 0 [(0, .str s1), (6, .mptr 0 0), (7, .int .i64 ((i3 + 1 : Nat) : Int)), (40, .int .u8 (c31.toNat : Int)), (43, .bool (eqI (c31.toNat : Int) 34))] [[.baddr 50 0, .osl ⟨1, 5⟩ (buf2.map cU)]] ?_ ?_
          · refine st ?_
            simp
          rcases sp l6 with ⟨g33, l6⟩ | ⟨g33, l6⟩
          · have c34 := eqT g33
            refine condT rfl g33 ?_
            refine awp_skip ?_
            refine seq_eq ?_
            refine condT rfl (by simp [g33]) ?_
            obtain ⟨v35, q36, l6⟩ := bs l6
            refine last 61 0 [(0, .str s1), (6, .mptr 0 0), (7, .int .i64 ((i3 + 1 : Nat) : Int))] [[.baddr 50 0, .osl ⟨1, 5⟩ (v35.map cU)]] ?_ fun zz hs => ?_
            · refine st ?_
              simp [q32]
              have r38 := (strings_Builder_WriteByte_ok c31 buf2 v35 q36).frame [0] [[.baddr 50 0, .osl ⟨1, 5⟩ (buf2.map cU)]] (by simp)
              try simp [q32] at r38
              refine callRaw r38 (by simp [q32]) rfl ?_
              simp [q32]
            refine blk_n ?_
            refine blk_n ?_
            refine blk_n ?_
            refine seq_le ?_ hs
            have q37 : Rng .i64 (((i3 + 1 : Nat) : Int) + 1) := by simp only [Rng, inR]; omega
            try simp at q37
            refine last 61 0 [(0, .str s1), (6, .mptr 0 0), (7, .int .i64 (((i3 + 1) + 1 : Nat) : Int))] [[.baddr 50 0, .osl ⟨1, 5⟩ (v35.map cU)]] ?_ fun zz hs => ?_
            · refine st ?_
              simp [q37]
            exact ⟨(k8, v35, (i3 + 1) + 1), hs, l6, by simp⟩
          · have c39 := eqF g33
            refine condF rfl g33 ?_
            refine last 61 0 [(0, .str s1), (6, .mptr 0 0), (7, .int .i64 ((i3 + 1 : Nat) : Int)), (40, .int .u8 (c31.toNat : Int)), (43, .bool (eqI (c31.toNat : Int) 92))] [[.baddr 50 0, .osl ⟨1, 5⟩ (buf2.map cU)]] ?_ fun zz hs => ?_
            · refine st ?_
              simp
            refine seq_le ?_ hs
            rcases sp l6 with ⟨g40, l6⟩ | ⟨g40, l6⟩
            · have c41 := eqT g40
              refine condT rfl g40 ?_
              obtain ⟨v42, q43, l6⟩ := bs l6
              refine last 61 0 [(0, .str s1), (6, .mptr 0 0), (7, .int .i64 ((i3 + 1 : Nat) : Int))] [[.baddr 50 0, .osl ⟨1, 5⟩ (v42.map cU)]] ?_ fun zz hs => ?_
              · refine st ?_
                simp [q32]
                have r45 := (strings_Builder_WriteByte_ok c31 buf2 v42 q43).frame [0] [[.baddr 50 0, .osl ⟨1, 5⟩ (buf2.map cU)]] (by simp)
                try simp [q32] at r45
                refine callRaw r45 (by simp [q32]) rfl ?_
                simp [q32]
              refine blk_n ?_
              refine blk_n ?_
              refine blk_n ?_
              refine seq_le ?_ hs
              have q44 : Rng .i64 (((i3 + 1 : Nat) : Int) + 1) := by simp only [Rng, inR]; omega
              try simp at q44
              refine last 61 0 [(0, .str s1), (6, .mptr 0 0), (7, .int .i64 (((i3 + 1) + 1 : Nat) : Int))] [[.baddr 50 0, .osl ⟨1, 5⟩ (v42.map cU)]] ?_ fun zz hs => ?_
              · refine st ?_
                simp [q44]
              exact ⟨(k8, v42, (i3 + 1) + 1), hs, l6, by simp⟩
            · have c46 := eqF g40
              refine condF rfl g40 ?_
              refine cut 61 0 [(0, .str s1), (6, .mptr 0 0), (7, .int .i64 ((i3 + 1 : Nat) : Int)), (50, .bool (eqI (c31.toNat : Int) 110))] [[.baddr 50 0, .osl ⟨1, 5⟩ (buf2.map cU)]] ?_ ?_
              · refine st ?_
                simp
              rcases sp l6 with ⟨g47, l6⟩ | ⟨g47, l6⟩
              · have c48 := eqT g47
                refine condT rfl g47 ?_
                obtain ⟨v49, q50, l6⟩ := bs l6
                refine last 61 0 [(0, .str s1), (6, .mptr 0 0), (7, .int .i64 ((i3 + 1 : Nat) : Int))] [[.baddr 50 0, .osl ⟨1, 5⟩ (v49.map cU)]] ?_ fun zz hs => ?_
                · refine st ?_
                  simp
                  have r52 := (strings_Builder_WriteByte_ok (10 : UInt8) buf2 v49 q50).frame [0] [[.baddr 50 0, .osl ⟨1, 5⟩ (buf2.map cU)]] (by simp)
                  try simp [] at r52
                  refine callRaw r52 (by simp []) rfl ?_
                  simp
                refine blk_n ?_
                refine blk_n ?_
                refine blk_n ?_
                refine seq_le ?_ hs
                have q51 : Rng .i64 (((i3 + 1 : Nat) : Int) + 1) := by simp only [Rng, inR]; omega
                try simp at q51
                refine last 61 0 [(0, .str s1), (6, .mptr 0 0), (7, .int .i64 (((i3 + 1) + 1 : Nat) : Int))] [[.baddr 50 0, .osl ⟨1, 5⟩ (v49.map cU)]] ?_ fun zz hs => ?_
                · refine st ?_
                  simp [q51]
                exact ⟨(k8, v49, (i3 + 1) + 1), hs, l6, by simp⟩
              · have c53 := eqF g47
                refine condF rfl g47 ?_
                have q54 : Rng .i64 (((i3 + 1 : Nat) : Int) - 1) := by simp only [Rng, inR]; omega
                try simp at q54
                refine cut 61 0 [(2, .str ([] : List UInt8)), (3, .int .i64 0), (4, .int .i64 (((i3 + 1 : Nat) : Int) - 1)), (5, .int .i64 3)] [[.baddr 50 0, .osl ⟨1, 5⟩ (buf2.map cU)]] ?_ ?_
                · refine st ?_
                  simp [q54]
                refine awp_ret ?_
                refine ret_blk ?_
                refine ret_blk ?_
                refine ret_blk ?_
                refine ret_seq ?_
                replace h := retL l6 h
                refine ret_seq ?_
                refine ret_blk ?_
                refine ret_seq ?_
                obtain rfl := Option.some.inj h
                simp
        · refine condF rfl g25 ?_
          refine cut 61 0 [(0, .str s1), (6, .mptr 0 0), (7, .int .i64 ((i3 : Nat) : Int)), (8, .int .u8 (c12.toNat : Int)), (53, .bool (eqI (c12.toNat : Int) 92))] [[.baddr 50 0, .osl ⟨1, 5⟩ (buf2.map cU)]] ?_ ?_
          · refine st ?_
            simp
          rcases sp l6 with ⟨g55, l6⟩ | ⟨g55, l6⟩
          · have c56 := eqT g55
            refine condT rfl g55 ?_
            refine cut 61 0 [(2, .str ([] : List UInt8)), (3, .int .i64 0), (4, .int .i64 0), (5, .int .i64 4)] [[.baddr 50 0, .osl ⟨1, 5⟩ (buf2.map cU)]] ?_ ?_
            · refine st ?_
              simp
            refine awp_ret ?_
            refine ret_blk ?_
            refine ret_blk ?_
            refine ret_seq ?_
            replace h := retL l6 h
            refine ret_seq ?_
            refine ret_blk ?_
            refine ret_seq ?_
            obtain rfl := Option.some.inj h
            simp
          · have c57 := eqF g55
            refine condF rfl g55 ?_
            obtain ⟨v58, q59, l6⟩ := bs l6
            refine cut 61 0 [(0, .str s1), (6, .mptr 0 0), (7, .int .i64 ((i3 : Nat) : Int)), (8, .int .u8 (c12.toNat : Int)), (56, .bool (!v58))] [[.baddr 50 0, .osl ⟨1, 5⟩ (buf2.map cU)]] ?_ ?_
            · refine st ?_
              simp
              have r67 := lexer_visible_ok c12 v58 q59
              try simp [] at r67
              refine callPure r67 (by simp) rfl ?_
              simp
            rcases sp l6 with ⟨g60, l6⟩ | ⟨g60, l6⟩
            · have g61 := notT g60
              refine condT rfl g60 ?_
              refine cut 61 0 [(2, .str ([] : List UInt8)), (3, .int .i64 0), (4, .int .i64 ((i3 : Nat) : Int)), (5, .int .i64 3)] [[.baddr 50 0, .osl ⟨1, 5⟩ (buf2.map cU)]] ?_ ?_
              · refine st ?_
                simp
              refine awp_ret ?_
              refine ret_blk ?_
              refine ret_blk ?_
              refine ret_seq ?_
              replace h := retL l6 h
              refine ret_seq ?_
              refine ret_blk ?_
              refine ret_seq ?_
              obtain rfl := Option.some.inj h
              simp
            · have g62 := notF g60
              refine condF rfl g60 ?_
              obtain ⟨v63, q64, l6⟩ := bs l6
              refine last 61 0 [(0, .str s1), (6, .mptr 0 0), (7, .int .i64 ((i3 : Nat) : Int))] [[.baddr 50 0, .osl ⟨1, 5⟩ (v63.map cU)]] ?_ fun zz hs => ?_
              · refine st ?_
                simp
                have r66 := (strings_Builder_WriteByte_ok c12 buf2 v63 q64).frame [0] [[.baddr 50 0, .osl ⟨1, 5⟩ (buf2.map cU)]] (by simp)
                try simp [] at r66
                refine callRaw r66 (by simp []) rfl ?_
                simp
              refine blk_n ?_
              refine blk_n ?_
              refine seq_le ?_ hs
              have q65 : Rng .i64 (((i3 : Nat) : Int) + 1) := by simp only [Rng, inR]; omega
              try simp at q65
              refine last 61 0 [(0, .str s1), (6, .mptr 0 0), (7, .int .i64 ((i3 + 1 : Nat) : Int))] [[.baddr 50 0, .osl ⟨1, 5⟩ (v63.map cU)]] ?_ fun zz hs => ?_
              · refine st ?_
                simp [q65]
              exact ⟨(k8, v63, i3 + 1), hs, l6, by simp⟩
    · have c68 := ltF g9
      refine condF rfl g9 ?_
      refine factS 0 rfl fun f69 => ?_
      refine awp_exit ?_
      refine exit_seq ?_
      rcases o5 with o5 | o4
      · cases l6
      have q70 := Sum.inr.inj (Option.some.inj l6)
      replace h := elimR h
      have q70 := q70.symm
      refine exit_seq ?_
      refine exit_blk ?_
      refine seq_le (t := mkS 61 0 [] [[.baddr 50 0, .osl ⟨1, 5⟩ (o4.map cU)]]) ?_ (le_mkS (by simp [q70]))
      refine cut 61 0 [(2, .str ([] : List UInt8)), (3, .int .i64 0), (4, .int .i64 0), (5, .int .i64 4)] [[.baddr 50 0, .osl ⟨1, 5⟩ (o4.map cU)]] ?_ ?_
      · refine st ?_
        simp
      refine awp_ret ?_
      obtain rfl := Option.some.inj h
      simp
end Go.Proofs.YthbjlmoaceaeeaaDoor
set_option linter.unusedVariables false
set_option linter.unusedSimpArgs false
set_option maxRecDepth 100000
set_option maxHeartbeats 1000000
namespace Go.Proofs.YthbjlmoaceaeeaaDoor
open Go Go.Abs
theorem lexer_Symbol_ok (fuel : Nat) (s1 : (List UInt8)) (r : (List UInt8) × Bool) (h : M.lexer_Symbol fuel s1 = some r) : Pure Tryd.prog 32 [.str s1] (.tup [.str r.1, .bool r.2]) := by
  rw [M.lexer_Symbol] at h
  refine pure_of_body Tryd.func32 (by rfl) (by rfl) (by simp) (by simp) (by simp) ?_
  refine cut 29 0 [(0, .str s1)] [] ?_ ?_
  · refine st ?_
    simp
  refine awp_seq ?_
  obtain ⟨v2, q3, h⟩ := bs h
  refine cut 29 0 [(0, .str s1), (7, .bool v2)] [] ?_ ?_
  · refine st ?_
    simp
    have r43 := strings_HasPrefix_ok s1 [40, 42] v2 q3
    try simp [] at r43
    refine callPure r43 (by simp) rfl ?_
    simp
  rcases sp h with ⟨g4, h⟩ | ⟨g4, h⟩
  · refine condT rfl g4 ?_
    refine cut 29 0 [(2, .str ([] : List UInt8)), (3, .bool false)] [] ?_ ?_
    · refine st ?_
      simp
    refine awp_ret ?_
    refine ret_seq ?_
    obtain rfl := Option.some.inj h
    simp
  · refine condF rfl g4 ?_
    refine awp_skip ?_
    refine seq_eq ?_
    refine awp_seq ?_
    obtain ⟨l5, q6, h⟩ := bs h
    obtain ⟨q7, q8⟩ := lit_ok q6
    refine cut 29 0 [(0, .str s1), (8, .osl ⟨1, 9⟩ (l5.map cS)), (9, .int .i64 (l5.length : Int)), (10, .int .i64 0)] [] ?_ ?_
    · refine st ?_
      simp [q7, q8]
    refine awp_block ?_
    obtain ⟨o11, l12, h⟩ := bs h
    refine awp_inv (fun p : Nat × Nat => mkS 29 0 [(0, .str s1), (8, .osl ⟨1, 9⟩ (l5.map cS)), (9, .int .i64 (l5.length : Int)), (10, .int .i64 ((p.2 : Nat) : Int))] []) (fun p => M.lexer_Symbol_l1 s1 l5 p.1 p.2 = some o11) (fun p => p.1) (fuel, 0) l12 (le_mkS (by simp)) ?_
    rintro ⟨k13, i9⟩ l12
    dsimp only at l12 ⊢
    cases k13 with
    | zero =>
      rw [M.lexer_Symbol_l1] at l12; cases l12
    | succ k14 =>
      rw [M.lexer_Symbol_l1] at l12
      refine cut 29 0 [(0, .str s1), (8, .osl ⟨1, 9⟩ (l5.map cS)), (9, .int .i64 (l5.length : Int)), (10, .int .i64 ((i9 : Nat) : Int)), (11, .bool (ltI ((i9 : Nat) : Int) (l5.length : Int)))] [] ?_ ?_
      · refine st ?_
        simp
      refine awp_seq ?_
      rcases sp l12 with ⟨g15, l12⟩ | ⟨g15, l12⟩
      · have c16 := ltT g15
        refine condT rfl g15 ?_
        refine factL 8 rfl fun f17 => ?_
        rw [List.length_map] at f17
        refine awp_skip ?_
        refine seq_eq ?_
        refine awp_seq ?_
        refine awp_block ?_
        obtain ⟨x18, q19, l12⟩ := bs l12
        refine cut 29 0 [(0, .str s1), (5, .str x18), (8, .osl ⟨1, 9⟩ (l5.map cS)), (9, .int .i64 (l5.length : Int)), (10, .int .i64 ((i9 : Nat) : Int))] [] ?_ ?_
        · refine st ?_
          simp [q19]
        obtain ⟨v20, q21, l12⟩ := bs l12
        refine cut 29 0 [(0, .str s1), (5, .str x18), (8, .osl ⟨1, 9⟩ (l5.map cS)), (9, .int .i64 (l5.length : Int)), (10, .int .i64 ((i9 : Nat) : Int)), (16, .bool v20)] [] ?_ ?_
        · refine st ?_
          simp
          have r24 := strings_HasPrefix_ok s1 x18 v20 q21
          try simp [] at r24
          refine callPure r24 (by simp) rfl ?_
          simp
        rcases sp l12 with ⟨g22, l12⟩ | ⟨g22, l12⟩
        · refine condT rfl g22 ?_
          refine cut 29 0 [(2, .str x18), (3, .bool true)] [] ?_ ?_
          · refine st ?_
            simp
          refine awp_ret ?_
          refine ret_blk ?_
          refine ret_seq ?_
          replace h := retL l12 h
          refine ret_seq ?_
          refine ret_blk ?_
          refine ret_seq ?_
          obtain rfl := Option.some.inj h
          simp
        · refine condF rfl g22 ?_
          refine awp_skip ?_
          refine blk_n ?_
          refine seq_eq ?_
          have q23 : Rng .i64 (((i9 : Nat) : Int) + 1) := by simp only [Rng, inR]; omega
          try simp at q23
          refine last 29 0 [(0, .str s1), (8, .osl ⟨1, 9⟩ (l5.map cS)), (9, .int .i64 (l5.length : Int)), (10, .int .i64 ((i9 + 1 : Nat) : Int))] [] ?_ fun zz hs => ?_
          · refine st ?_
            simp [q23]
          exact ⟨(k14, i9 + 1), hs, l12, by simp⟩
      · have c25 := ltF g15
        refine condF rfl g15 ?_
        refine factL 8 rfl fun f26 => ?_
        rw [List.length_map] at f26
        refine awp_exit ?_
        refine exit_seq ?_
        rcases o11 with o11 | o10
        · cases l12
        have q27 := Sum.inr.inj (Option.some.inj l12)
        replace h := elimR h
        refine exit_seq ?_
        refine exit_blk ?_
        refine seq_le (t := mkS 29 0 [(0, .str s1)] []) ?_ (le_mkS (by simp []))
        refine awp_seq ?_
        obtain ⟨b35, q36, h⟩ := bs h
        refine cut 29 0 [(0, .str s1), (26, .bool b35)] [] ?_ ?_
        · rcases sp q36 with ⟨g28, q36⟩ | ⟨g28, q36⟩
          · have g29 := notT g28
            obtain ⟨c30, q31, q36⟩ := bs q36
            obtain ⟨v32, q33, q36⟩ := bs q36
            obtain rfl := Option.some.inj q36
            refine st ?_
            simp [g28, q31]
            have r42 := strings_IndexByte_ok [40, 41, 44, 59, 58, 61, 124, 95, 46, 42, 43, 45, 60, 94, 126] c30 v32 q33
            try simp [g28, q31] at r42
            refine callPure r42 (by simp) rfl ?_
            simp [g28, q31]
          · have g34 := notF g28
            obtain rfl := Option.some.inj q36
            refine st ?_
            simp [g28]
        rcases sp h with ⟨g37, h⟩ | ⟨g37, h⟩
        · refine condT rfl g37 ?_
          obtain ⟨s38, q39, h⟩ := bs h
          obtain ⟨q40, q41⟩ := subC_ok q39
          try simp at q40
          try simp at q41
          refine cut 29 0 [(2, .str s38), (3, .bool true)] [] ?_ ?_
          · refine st ?_
            simp [q40, q41]
          refine awp_ret ?_
          refine ret_seq ?_
          obtain rfl := Option.some.inj h
          simp
        · refine condF rfl g37 ?_
          refine awp_skip ?_
          refine seq_eq ?_
          refine cut 29 0 [(2, .str ([] : List UInt8)), (3, .bool false)] [] ?_ ?_
          · refine st ?_
            simp
          refine awp_ret ?_
          obtain rfl := Option.some.inj h
          simp
end Go.Proofs.YthbjlmoaceaeeaaDoor
set_option linter.unusedVariables false
set_option linter.unusedSimpArgs false
set_option maxRecDepth 100000
set_option maxHeartbeats 1000000
namespace Go.Proofs.YthbjlmoaceaeeaaDoor
open Go Go.Abs
theorem lexer_scanner_token_ok (fuel : Nat) (w1 : Lexer.scanner) (r : Api.Token × Int × Int × Lexer.scanner) (h : M.lexer_scanner_token fuel w1 = some r) : Raw Tryd.prog 12 [.mptr 0 0] [[.str w1.s, .int .i64 w1.at_]] (.tup [.agg [.int .i64 r.1.Kind, .str r.1.Text, .int .i64 r.1.At.Line, .int .i64 r.1.At.Column], .int .i64 r.2.1, .int .i64 r.2.2.1]) [[.str r.2.2.2.s, .int .i64 r.2.2.2.at_]] := by
  rw [M.lexer_scanner_token] at h
  refine raw_of_bodyB Tryd.func12 (by rfl) (by rfl) (by simp) (by simp) ?_
  refine cut 188 1 [(1, .mptr 1 0), (2, .mptr 2 0)] [[.str w1.s, .int .i64 w1.at_], [.mptr 0 0], [.int .i64 0, .str ([] : List UInt8), .int .i64 0, .int .i64 0]] ?_ ?_
  · refine st ?_
    simp
  obtain ⟨s2, q3, h⟩ := bs h
  obtain ⟨q4, q5⟩ := subC_ok q3
  try simp at q4
  try simp at q5
  refine cut 188 1 [(1, .mptr 1 0), (2, .mptr 2 0), (5, .str s2)] [[.str w1.s, .int .i64 w1.at_], [.mptr 0 0], [.int .i64 0, .str ([] : List UInt8), .int .i64 0, .int .i64 0]] ?_ ?_
  · refine awp_region_draw [] mixed (n := 188) rfl (by decide) ?_
    simp [q4, q5]
  refine cut 188 1 [(1, .mptr 1 0), (2, .mptr 2 0), (5, .str s2), (6, .fn (.func 22) [] [.mptr 1 0])] [[.str w1.s, .int .i64 w1.at_], [.mptr 0 0], [.int .i64 0, .str ([] : List UInt8), .int .i64 0, .int .i64 0]] ?_ ?_
  · refine st ?_
    simp
  refine cut 188 1 [(2, .mptr 2 0), (5, .str s2), (6, .fn (.func 22) [] [.mptr 1 0]), (7, .fn (.func 23) [] [.mptr 1 0])] [[.str w1.s, .int .i64 w1.at_], [.mptr 0 0], [.int .i64 0, .str ([] : List UInt8), .int .i64 0, .int .i64 0]] ?_ ?_
  · refine st ?_
    simp
  obtain ⟨c6, q7, h⟩ := bs h
  refine cut 188 1 [(2, .mptr 2 0), (5, .str s2), (6, .fn (.func 22) [] [.mptr 1 0]), (7, .fn (.func 23) [] [.mptr 1 0]), (8, .int .u8 (c6.toNat : Int))] [[.str w1.s, .int .i64 w1.at_], [.mptr 0 0], [.int .i64 0, .str ([] : List UInt8), .int .i64 0, .int .i64 0]] ?_ ?_
  · refine st ?_
    simp [q7]
  refine awp_seq ?_
  refine awp_block ?_
  obtain ⟨b13, q14, h⟩ := bs h
  refine cut 188 1 [(2, .mptr 2 0), (5, .str s2), (6, .fn (.func 22) [] [.mptr 1 0]), (7, .fn (.func 23) [] [.mptr 1 0]), (8, .int .u8 (c6.toNat : Int)), (33, .bool b13)] [[.str w1.s, .int .i64 w1.at_], [.mptr 0 0], [.int .i64 0, .str ([] : List UInt8), .int .i64 0, .int .i64 0]] ?_ ?_
  · obtain ⟨v8, q9, q14⟩ := bs q14
    rcases sp q14 with ⟨g10, q14⟩ | ⟨g10, q14⟩
    · obtain rfl := Option.some.inj q14
      refine st ?_
      simp [g10]
      have r142 := lexer_small_ok c6 v8 q9
      try simp [g10] at r142
      refine callPure r142 (by simp) rfl ?_
      simp [g10]
    · obtain ⟨v11, q12, q14⟩ := bs q14
      obtain rfl := Option.some.inj q14
      refine st ?_
      simp [g10]
      have r143 := lexer_small_ok c6 v8 q9
      try simp [g10] at r143
      refine callPure r143 (by simp) rfl ?_
      simp [g10]
      have r144 := lexer_capital_ok c6 v11 q12
      try simp [g10] at r144
      refine callPure r144 (by simp) rfl ?_
      simp [g10]
  rcases sp h with ⟨g15, h⟩ | ⟨g15, h⟩
  · refine condT rfl g15 ?_
    obtain ⟨v16, q17, h⟩ := bs h
    refine cut 188 1 [(2, .mptr 2 0), (5, .str s2), (6, .fn (.func 22) [] [.mptr 1 0]), (7, .fn (.func 23) [] [.mptr 1 0]), (8, .int .u8 (c6.toNat : Int)), (9, .int .i64 v16)] [[.str w1.s, .int .i64 w1.at_], [.mptr 0 0], [.int .i64 0, .str ([] : List UInt8), .int .i64 0, .int .i64 0]] ?_ ?_
    · refine st ?_
      simp
      have r45 := lexer_length_inner_ok fuel s2 v16 q17
      try simp [] at r45
      refine callPure r45 (by simp) rfl ?_
      simp
    obtain ⟨s18, q19, h⟩ := bs h
    obtain ⟨q20, q21⟩ := subC_ok q19
    try simp at q20
    try simp at q21
    refine cut 188 1 [(2, .mptr 2 0), (6, .fn (.func 22) [] [.mptr 1 0]), (7, .fn (.func 23) [] [.mptr 1 0]), (8, .int .u8 (c6.toNat : Int)), (9, .int .i64 v16), (10, .str s18)] [[.str w1.s, .int .i64 w1.at_], [.mptr 0 0], [.int .i64 0, .str ([] : List UInt8), .int .i64 0, .int .i64 0]] ?_ ?_
    · refine st ?_
      simp [q20, q21]
    refine awp_seq ?_
    refine awp_block ?_
    obtain ⟨v22, q23, h⟩ := bs h
    refine cut 188 1 [(2, .mptr 2 0), (6, .fn (.func 22) [] [.mptr 1 0]), (7, .fn (.func 23) [] [.mptr 1 0]), (8, .int .u8 (c6.toNat : Int)), (9, .int .i64 v16), (10, .str s18), (45, .bool v22)] [[.str w1.s, .int .i64 w1.at_], [.mptr 0 0], [.int .i64 0, .str ([] : List UInt8), .int .i64 0, .int .i64 0]] ?_ ?_
    · refine st ?_
      simp
      have r44 := lexer_Keyword_ok s18 v22 q23
      try simp [] at r44
      refine callPure r44 (by simp) rfl ?_
      simp
    rcases sp h with ⟨g24, h⟩ | ⟨g24, h⟩
    · refine condT rfl g24 ?_
      obtain ⟨v25, q26, h⟩ := bs h
      refine cut 188 1 [(2, .mptr 2 0), (3, .int .i64 v25.2.1), (4, .int .i64 v25.2.2.1)] [[.str v25.2.2.2.s, .int .i64 v25.2.2.2.at_], [.mptr 0 0], [.int .i64 v25.1.Kind, .str v25.1.Text, .int .i64 v25.1.At.Line, .int .i64 v25.1.At.Column]] ?_ ?_
      · refine st ?_
        simp
        have r27 := (lexer_scanner_token_1_ok 6 v16 s18 w1 v25 q26).frame [1, 0] [[.str w1.s, .int .i64 w1.at_], [.mptr 0 0], [.int .i64 0, .str ([] : List UInt8), .int .i64 0, .int .i64 0]] (by simp)
        try simp [] at r27
        refine callRaw r27 (by simp []) rfl ?_
        simp
      refine awp_ret ?_
      refine ret_blk ?_
      refine ret_seq ?_
      refine ret_blk ?_
      refine ret_seq ?_
      obtain rfl := Option.some.inj h
      simp
    · refine condF rfl g24 ?_
      refine cut 188 1 [(2, .mptr 2 0), (6, .fn (.func 22) [] [.mptr 1 0]), (7, .fn (.func 23) [] [.mptr 1 0]), (8, .int .u8 (c6.toNat : Int)), (9, .int .i64 v16), (10, .str s18), (55, .bool (ltI 24 v16))] [[.str w1.s, .int .i64 w1.at_], [.mptr 0 0], [.int .i64 0, .str ([] : List UInt8), .int .i64 0, .int .i64 0]] ?_ ?_
      · refine st ?_
        simp
      rcases sp h with ⟨g28, h⟩ | ⟨g28, h⟩
      · have c29 := ltT g28
        refine condT rfl g28 ?_
        obtain ⟨v30, q31, h⟩ := bs h
        refine cut 188 1 [(2, .mptr 2 0), (3, .int .i64 v30.2.1), (4, .int .i64 v30.2.2)] [[.str w1.s, .int .i64 w1.at_], [.mptr 0 0], [.int .i64 v30.1.Kind, .str v30.1.Text, .int .i64 v30.1.At.Line, .int .i64 v30.1.At.Column]] ?_ ?_
        · refine st ?_
          simp
          have r32 := (lexer_scanner_token_2_ok 0 5 w1 v30 q31).frame [1, 0] [[.str w1.s, .int .i64 w1.at_], [.mptr 0 0], [.int .i64 0, .str ([] : List UInt8), .int .i64 0, .int .i64 0]] (by simp)
          try simp [] at r32
          refine callRaw r32 (by simp []) rfl ?_
          simp
        refine awp_ret ?_
        refine ret_blk ?_
        refine ret_seq ?_
        refine ret_blk ?_
        refine ret_seq ?_
        obtain rfl := Option.some.inj h
        simp
      · have c33 := ltF g28
        refine condF rfl g28 ?_
        obtain ⟨v34, q35, h⟩ := bs h
        refine cut 188 1 [(2, .mptr 2 0), (6, .fn (.func 22) [] [.mptr 1 0]), (9, .int .i64 v16), (10, .str s18), (63, .bool v34)] [[.str w1.s, .int .i64 w1.at_], [.mptr 0 0], [.int .i64 0, .str ([] : List UInt8), .int .i64 0, .int .i64 0]] ?_ ?_
        · refine st ?_
          simp
          have r43 := lexer_small_ok c6 v34 q35
          try simp [] at r43
          refine callPure r43 (by simp) rfl ?_
          simp
        rcases sp h with ⟨g36, h⟩ | ⟨g36, h⟩
        · refine condT rfl g36 ?_
          obtain ⟨v37, q38, h⟩ := bs h
          refine cut 188 1 [(2, .mptr 2 0), (3, .int .i64 v37.2.1), (4, .int .i64 v37.2.2.1)] [[.str v37.2.2.2.s, .int .i64 v37.2.2.2.at_], [.mptr 0 0], [.int .i64 v37.1.Kind, .str v37.1.Text, .int .i64 v37.1.At.Line, .int .i64 v37.1.At.Column]] ?_ ?_
          · refine st ?_
            simp
            have r39 := (lexer_scanner_token_1_ok 1 v16 s18 w1 v37 q38).frame [1, 0] [[.str w1.s, .int .i64 w1.at_], [.mptr 0 0], [.int .i64 0, .str ([] : List UInt8), .int .i64 0, .int .i64 0]] (by simp)
            try simp [] at r39
            refine callRaw r39 (by simp []) rfl ?_
            simp
          refine awp_ret ?_
          refine ret_blk ?_
          refine ret_seq ?_
          refine ret_blk ?_
          refine ret_seq ?_
          obtain rfl := Option.some.inj h
          simp
        · refine condF rfl g36 ?_
          refine awp_skip ?_
          refine blk_n ?_
          refine seq_eq ?_
          obtain ⟨v40, q41, h⟩ := bs h
          refine cut 188 1 [(2, .mptr 2 0), (3, .int .i64 v40.2.1), (4, .int .i64 v40.2.2.1)] [[.str v40.2.2.2.s, .int .i64 v40.2.2.2.at_], [.mptr 0 0], [.int .i64 v40.1.Kind, .str v40.1.Text, .int .i64 v40.1.At.Line, .int .i64 v40.1.At.Column]] ?_ ?_
          · refine st ?_
            simp
            have r42 := (lexer_scanner_token_1_ok 2 v16 s18 w1 v40 q41).frame [1, 0] [[.str w1.s, .int .i64 w1.at_], [.mptr 0 0], [.int .i64 0, .str ([] : List UInt8), .int .i64 0, .int .i64 0]] (by simp)
            try simp [] at r42
            refine callRaw r42 (by simp []) rfl ?_
            simp
          refine awp_ret ?_
          refine ret_blk ?_
          refine ret_seq ?_
          obtain rfl := Option.some.inj h
          simp
  · refine condF rfl g15 ?_
    refine cut 188 1 [(2, .mptr 2 0), (5, .str s2), (6, .fn (.func 22) [] [.mptr 1 0]), (7, .fn (.func 23) [] [.mptr 1 0]), (8, .int .u8 (c6.toNat : Int)), (80, .bool (eqI (c6.toNat : Int) 39))] [[.str w1.s, .int .i64 w1.at_], [.mptr 0 0], [.int .i64 0, .str ([] : List UInt8), .int .i64 0, .int .i64 0]] ?_ ?_
    · refine st ?_
      simp
    rcases sp h with ⟨g46, h⟩ | ⟨g46, h⟩
    · have c47 := eqT g46
      refine condT rfl g46 ?_
      refine awp_seq ?_
      obtain ⟨b57, q58, h⟩ := bs h
      refine cut 188 1 [(2, .mptr 2 0), (5, .str s2), (6, .fn (.func 22) [] [.mptr 1 0]), (7, .fn (.func 23) [] [.mptr 1 0]), (91, .bool b57)] [[.str w1.s, .int .i64 w1.at_], [.mptr 0 0], [.int .i64 0, .str ([] : List UInt8), .int .i64 0, .int .i64 0]] ?_ ?_
      · rcases sp q58 with ⟨g48, q58⟩ | ⟨g48, q58⟩
        · have c49 := ltT g48
          refine factS 5 rfl fun f50 => ?_
          obtain rfl := Option.some.inj q58
          refine st ?_
          simp [g48]
        · have c51 := ltF g48
          refine factS 5 rfl fun f52 => ?_
          obtain ⟨c53, q54, q58⟩ := bs q58
          obtain ⟨v55, q56, q58⟩ := bs q58
          obtain rfl := Option.some.inj q58
          refine st ?_
          simp [g48, q54]
          have r88 := lexer_small_ok c53 v55 q56
          try simp [g48, q54] at r88
          refine callPure r88 (by simp) rfl ?_
          simp [g48, q54]
      rcases sp h with ⟨g59, h⟩ | ⟨g59, h⟩
      · refine condT rfl g59 ?_
        obtain ⟨v60, q61, h⟩ := bs h
        refine cut 188 1 [(2, .mptr 2 0), (3, .int .i64 v60.2.1), (4, .int .i64 v60.2.2)] [[.str w1.s, .int .i64 w1.at_], [.mptr 0 0], [.int .i64 v60.1.Kind, .str v60.1.Text, .int .i64 v60.1.At.Line, .int .i64 v60.1.At.Column]] ?_ ?_
        · refine st ?_
          simp
          have r62 := (lexer_scanner_token_2_ok 0 3 w1 v60 q61).frame [1, 0] [[.str w1.s, .int .i64 w1.at_], [.mptr 0 0], [.int .i64 0, .str ([] : List UInt8), .int .i64 0, .int .i64 0]] (by simp)
          try simp [] at r62
          refine callRaw r62 (by simp []) rfl ?_
          simp
        refine awp_ret ?_
        refine ret_seq ?_
        refine ret_blk ?_
        refine ret_seq ?_
        obtain rfl := Option.some.inj h
        simp
      · refine condF rfl g59 ?_
        refine awp_skip ?_
        refine seq_eq ?_
        obtain ⟨s63, q64, h⟩ := bs h
        obtain ⟨q65, q66⟩ := subC_ok q64
        try simp at q65
        try simp at q66
        obtain ⟨v67, q68, h⟩ := bs h
        obtain ⟨n69, q70, h⟩ := bs h
        obtain ⟨q71, q72⟩ := chk_ok q70
        try simp at q71
        try simp at q72
        have c73 := q71; simp only [Rng, inR] at c73
        refine cut 188 1 [(2, .mptr 2 0), (5, .str s2), (6, .fn (.func 22) [] [.mptr 1 0]), (7, .fn (.func 23) [] [.mptr 1 0]), (11, .int .i64 n69)] [[.str w1.s, .int .i64 w1.at_], [.mptr 0 0], [.int .i64 0, .str ([] : List UInt8), .int .i64 0, .int .i64 0]] ?_ ?_
        · refine st ?_
          simp [q65, q66, q71, q72]
          have r87 := lexer_length_inner_ok fuel s63 v67 q68
          try simp [q65, q66, q71, q72] at r87
          refine callPure r87 (by simp) rfl ?_
          simp [q65, q66, q71, q72]
        refine awp_seq ?_
        refine cut 188 1 [(2, .mptr 2 0), (5, .str s2), (6, .fn (.func 22) [] [.mptr 1 0]), (7, .fn (.func 23) [] [.mptr 1 0]), (11, .int .i64 n69), (102, .bool (ltI 24 n69))] [[.str w1.s, .int .i64 w1.at_], [.mptr 0 0], [.int .i64 0, .str ([] : List UInt8), .int .i64 0, .int .i64 0]] ?_ ?_
        · refine st ?_
          simp
        rcases sp h with ⟨g74, h⟩ | ⟨g74, h⟩
        · have c75 := ltT g74
          refine condT rfl g74 ?_
          obtain ⟨v76, q77, h⟩ := bs h
          refine cut 188 1 [(2, .mptr 2 0), (3, .int .i64 v76.2.1), (4, .int .i64 v76.2.2)] [[.str w1.s, .int .i64 w1.at_], [.mptr 0 0], [.int .i64 v76.1.Kind, .str v76.1.Text, .int .i64 v76.1.At.Line, .int .i64 v76.1.At.Column]] ?_ ?_
          · refine st ?_
            simp
            have r78 := (lexer_scanner_token_2_ok 0 5 w1 v76 q77).frame [1, 0] [[.str w1.s, .int .i64 w1.at_], [.mptr 0 0], [.int .i64 0, .str ([] : List UInt8), .int .i64 0, .int .i64 0]] (by simp)
            try simp [] at r78
            refine callRaw r78 (by simp []) rfl ?_
            simp
          refine awp_ret ?_
          refine ret_seq ?_
          refine ret_blk ?_
          refine ret_seq ?_
          obtain rfl := Option.some.inj h
          simp
        · have c79 := ltF g74
          refine condF rfl g74 ?_
          refine awp_skip ?_
          refine seq_eq ?_
          obtain ⟨s80, q81, h⟩ := bs h
          obtain ⟨q82, q83⟩ := subC_ok q81
          try simp at q82
          try simp at q83
          obtain ⟨v84, q85, h⟩ := bs h
          refine cut 188 1 [(2, .mptr 2 0), (3, .int .i64 v84.2.1), (4, .int .i64 v84.2.2.1)] [[.str v84.2.2.2.s, .int .i64 v84.2.2.2.at_], [.mptr 0 0], [.int .i64 v84.1.Kind, .str v84.1.Text, .int .i64 v84.1.At.Line, .int .i64 v84.1.At.Column]] ?_ ?_
          · refine st ?_
            simp [q82, q83]
            have r86 := (lexer_scanner_token_1_ok 3 n69 s80 w1 v84 q85).frame [1, 0] [[.str w1.s, .int .i64 w1.at_], [.mptr 0 0], [.int .i64 0, .str ([] : List UInt8), .int .i64 0, .int .i64 0]] (by simp)
            try simp [q82, q83] at r86
            refine callRaw r86 (by simp [q82, q83]) rfl ?_
            simp [q82, q83]
          refine awp_ret ?_
          refine ret_blk ?_
          refine ret_seq ?_
          obtain rfl := Option.some.inj h
          simp
    · have c89 := eqF g46
      refine condF rfl g46 ?_
      obtain ⟨v90, q91, h⟩ := bs h
      refine cut 188 1 [(2, .mptr 2 0), (5, .str s2), (6, .fn (.func 22) [] [.mptr 1 0]), (7, .fn (.func 23) [] [.mptr 1 0]), (8, .int .u8 (c6.toNat : Int)), (117, .bool v90)] [[.str w1.s, .int .i64 w1.at_], [.mptr 0 0], [.int .i64 0, .str ([] : List UInt8), .int .i64 0, .int .i64 0]] ?_ ?_
      · refine st ?_
        simp
        have r141 := lexer_digit_ok c6 v90 q91
        try simp [] at r141
        refine callPure r141 (by simp) rfl ?_
        simp
      rcases sp h with ⟨g92, h⟩ | ⟨g92, h⟩
      · refine condT rfl g92 ?_
        obtain ⟨v93, q94, h⟩ := bs h
        refine cut 188 1 [(2, .mptr 2 0), (5, .str s2), (6, .fn (.func 22) [] [.mptr 1 0]), (7, .fn (.func 23) [] [.mptr 1 0]), (12, .int .i64 v93)] [[.str w1.s, .int .i64 w1.at_], [.mptr 0 0], [.int .i64 0, .str ([] : List UInt8), .int .i64 0, .int .i64 0]] ?_ ?_
        · refine st ?_
          simp
          have r113 := lexer_length_digit_ok fuel s2 v93 q94
          try simp [] at r113
          refine callPure r113 (by simp) rfl ?_
          simp
        refine awp_seq ?_
        obtain ⟨s95, q96, h⟩ := bs h
        obtain ⟨q97, q98⟩ := subC_ok q96
        try simp at q97
        try simp at q98
        obtain ⟨v99, q100, h⟩ := bs h
        refine cut 188 1 [(2, .mptr 2 0), (5, .str s2), (6, .fn (.func 22) [] [.mptr 1 0]), (7, .fn (.func 23) [] [.mptr 1 0]), (12, .int .i64 v93), (13, .int .i64 v99)] [[.str w1.s, .int .i64 w1.at_], [.mptr 0 0], [.int .i64 0, .str ([] : List UInt8), .int .i64 0, .int .i64 0]] ?_ ?_
        · refine st ?_
          simp [q97, q98]
          have r112 := lexer_number_ok fuel s95 v99 q100
          try simp [q97, q98] at r112
          refine callPure r112 (by simp) rfl ?_
          simp [q97, q98]
        refine cut 188 1 [(2, .mptr 2 0), (5, .str s2), (6, .fn (.func 22) [] [.mptr 1 0]), (7, .fn (.func 23) [] [.mptr 1 0]), (12, .int .i64 v93), (13, .int .i64 v99), (127, .bool (!(eqI v99 0)))] [[.str w1.s, .int .i64 w1.at_], [.mptr 0 0], [.int .i64 0, .str ([] : List UInt8), .int .i64 0, .int .i64 0]] ?_ ?_
        · refine st ?_
          simp
        rcases sp h with ⟨g101, h⟩ | ⟨g101, h⟩
        · have g102 := notT g101
          have c103 := eqF g102
          refine condT rfl g101 ?_
          obtain ⟨v104, q105, h⟩ := bs h
          refine cut 188 1 [(2, .mptr 2 0), (3, .int .i64 v104.2.1), (4, .int .i64 v104.2.2)] [[.str w1.s, .int .i64 w1.at_], [.mptr 0 0], [.int .i64 v104.1.Kind, .str v104.1.Text, .int .i64 v104.1.At.Line, .int .i64 v104.1.At.Column]] ?_ ?_
          · refine st ?_
            simp
            have r106 := (lexer_scanner_token_2_ok 0 v99 w1 v104 q105).frame [1, 0] [[.str w1.s, .int .i64 w1.at_], [.mptr 0 0], [.int .i64 0, .str ([] : List UInt8), .int .i64 0, .int .i64 0]] (by simp)
            try simp [] at r106
            refine callRaw r106 (by simp []) rfl ?_
            simp
          refine awp_ret ?_
          refine ret_seq ?_
          refine ret_blk ?_
          refine ret_seq ?_
          obtain rfl := Option.some.inj h
          simp
        · have g107 := notF g101
          have c108 := eqT g107
          refine condF rfl g101 ?_
          refine awp_skip ?_
          refine seq_eq ?_
          obtain ⟨v109, q110, h⟩ := bs h
          refine cut 188 1 [(2, .mptr 2 0), (3, .int .i64 v109.2.1), (4, .int .i64 v109.2.2.1)] [[.str v109.2.2.2.s, .int .i64 v109.2.2.2.at_], [.mptr 0 0], [.int .i64 v109.1.Kind, .str v109.1.Text, .int .i64 v109.1.At.Line, .int .i64 v109.1.At.Column]] ?_ ?_
          · refine st ?_
            simp [q97, q98]
            have r111 := (lexer_scanner_token_1_ok 4 v93 s95 w1 v109 q110).frame [1, 0] [[.str w1.s, .int .i64 w1.at_], [.mptr 0 0], [.int .i64 0, .str ([] : List UInt8), .int .i64 0, .int .i64 0]] (by simp)
            try simp [q97, q98] at r111
            refine callRaw r111 (by simp [q97, q98]) rfl ?_
            simp [q97, q98]
          refine awp_ret ?_
          refine ret_blk ?_
          refine ret_seq ?_
          obtain rfl := Option.some.inj h
          simp
      · refine condF rfl g92 ?_
        refine cut 188 1 [(2, .mptr 2 0), (5, .str s2), (6, .fn (.func 22) [] [.mptr 1 0]), (7, .fn (.func 23) [] [.mptr 1 0]), (143, .bool (eqI (c6.toNat : Int) 34))] [[.str w1.s, .int .i64 w1.at_], [.mptr 0 0], [.int .i64 0, .str ([] : List UInt8), .int .i64 0, .int .i64 0]] ?_ ?_
        · refine st ?_
          simp
        rcases sp h with ⟨g114, h⟩ | ⟨g114, h⟩
        · have c115 := eqT g114
          refine condT rfl g114 ?_
          obtain ⟨v116, q117, h⟩ := bs h
          refine cut 188 1 [(2, .mptr 2 0), (6, .fn (.func 22) [] [.mptr 1 0]), (7, .fn (.func 23) [] [.mptr 1 0]), (14, .str v116.1), (15, .int .i64 v116.2.1), (16, .int .i64 v116.2.2.1), (17, .int .i64 v116.2.2.2)] [[.str w1.s, .int .i64 w1.at_], [.mptr 0 0], [.int .i64 0, .str ([] : List UInt8), .int .i64 0, .int .i64 0]] ?_ ?_
          · refine st ?_
            simp
            have r129 := lexer_literal_ok fuel s2 v116 q117
            try simp [] at r129
            refine callPure r129 (by simp) rfl ?_
            simp
          refine awp_seq ?_
          refine cut 188 1 [(2, .mptr 2 0), (6, .fn (.func 22) [] [.mptr 1 0]), (7, .fn (.func 23) [] [.mptr 1 0]), (14, .str v116.1), (15, .int .i64 v116.2.1), (16, .int .i64 v116.2.2.1), (17, .int .i64 v116.2.2.2), (154, .bool (!(eqI v116.2.2.2 0)))] [[.str w1.s, .int .i64 w1.at_], [.mptr 0 0], [.int .i64 0, .str ([] : List UInt8), .int .i64 0, .int .i64 0]] ?_ ?_
          · refine st ?_
            simp
          rcases sp h with ⟨g118, h⟩ | ⟨g118, h⟩
          · have g119 := notT g118
            have c120 := eqF g119
            refine condT rfl g118 ?_
            obtain ⟨v121, q122, h⟩ := bs h
            refine cut 188 1 [(2, .mptr 2 0), (3, .int .i64 v121.2.1), (4, .int .i64 v121.2.2)] [[.str w1.s, .int .i64 w1.at_], [.mptr 0 0], [.int .i64 v121.1.Kind, .str v121.1.Text, .int .i64 v121.1.At.Line, .int .i64 v121.1.At.Column]] ?_ ?_
            · refine st ?_
              simp
              have r123 := (lexer_scanner_token_2_ok v116.2.2.1 v116.2.2.2 w1 v121 q122).frame [1, 0] [[.str w1.s, .int .i64 w1.at_], [.mptr 0 0], [.int .i64 0, .str ([] : List UInt8), .int .i64 0, .int .i64 0]] (by simp)
              try simp [] at r123
              refine callRaw r123 (by simp []) rfl ?_
              simp
            refine awp_ret ?_
            refine ret_seq ?_
            refine ret_blk ?_
            refine ret_seq ?_
            obtain rfl := Option.some.inj h
            simp
          · have g124 := notF g118
            have c125 := eqT g124
            refine condF rfl g118 ?_
            refine awp_skip ?_
            refine seq_eq ?_
            obtain ⟨v126, q127, h⟩ := bs h
            refine cut 188 1 [(2, .mptr 2 0), (3, .int .i64 v126.2.1), (4, .int .i64 v126.2.2.1)] [[.str v126.2.2.2.s, .int .i64 v126.2.2.2.at_], [.mptr 0 0], [.int .i64 v126.1.Kind, .str v126.1.Text, .int .i64 v126.1.At.Line, .int .i64 v126.1.At.Column]] ?_ ?_
            · refine st ?_
              simp
              have r128 := (lexer_scanner_token_1_ok 5 v116.2.1 v116.1 w1 v126 q127).frame [1, 0] [[.str w1.s, .int .i64 w1.at_], [.mptr 0 0], [.int .i64 0, .str ([] : List UInt8), .int .i64 0, .int .i64 0]] (by simp)
              try simp [] at r128
              refine callRaw r128 (by simp []) rfl ?_
              simp
            refine awp_ret ?_
            refine ret_blk ?_
            refine ret_seq ?_
            obtain rfl := Option.some.inj h
            simp
        · have c130 := eqF g114
          refine condF rfl g114 ?_
          refine awp_skip ?_
          refine blk_n ?_
          refine seq_eq ?_
          refine awp_seq ?_
          obtain ⟨v131, q132, h⟩ := bs h
          refine cut 188 1 [(2, .mptr 2 0), (6, .fn (.func 22) [] [.mptr 1 0]), (7, .fn (.func 23) [] [.mptr 1 0]), (18, .str v131.1), (19, .bool v131.2)] [[.str w1.s, .int .i64 w1.at_], [.mptr 0 0], [.int .i64 0, .str ([] : List UInt8), .int .i64 0, .int .i64 0]] ?_ ?_
          · refine st ?_
            simp
            have r140 := lexer_Symbol_ok fuel s2 v131 q132
            try simp [] at r140
            refine callPure r140 (by simp) rfl ?_
            simp
          refine cut 188 1 [(2, .mptr 2 0), (6, .fn (.func 22) [] [.mptr 1 0]), (7, .fn (.func 23) [] [.mptr 1 0]), (18, .str v131.1), (174, .bool v131.2)] [[.str w1.s, .int .i64 w1.at_], [.mptr 0 0], [.int .i64 0, .str ([] : List UInt8), .int .i64 0, .int .i64 0]] ?_ ?_
          · refine st ?_
            simp
          rcases sp h with ⟨g133, h⟩ | ⟨g133, h⟩
          · refine condT rfl g133 ?_
            obtain ⟨v134, q135, h⟩ := bs h
            refine cut 188 1 [(2, .mptr 2 0), (3, .int .i64 v134.2.1), (4, .int .i64 v134.2.2.1)] [[.str v134.2.2.2.s, .int .i64 v134.2.2.2.at_], [.mptr 0 0], [.int .i64 v134.1.Kind, .str v134.1.Text, .int .i64 v134.1.At.Line, .int .i64 v134.1.At.Column]] ?_ ?_
            · refine st ?_
              simp
              have r136 := (lexer_scanner_token_1_ok 7 (v131.1.length : Int) v131.1 w1 v134 q135).frame [1, 0] [[.str w1.s, .int .i64 w1.at_], [.mptr 0 0], [.int .i64 0, .str ([] : List UInt8), .int .i64 0, .int .i64 0]] (by simp)
              try simp [] at r136
              refine callRaw r136 (by simp []) rfl ?_
              simp
            refine awp_ret ?_
            refine ret_seq ?_
            obtain rfl := Option.some.inj h
            simp
          · refine condF rfl g133 ?_
            refine awp_skip ?_
            refine seq_eq ?_
            obtain ⟨v137, q138, h⟩ := bs h
            refine cut 188 1 [(2, .mptr 2 0), (3, .int .i64 v137.2.1), (4, .int .i64 v137.2.2)] [[.str w1.s, .int .i64 w1.at_], [.mptr 0 0], [.int .i64 v137.1.Kind, .str v137.1.Text, .int .i64 v137.1.At.Line, .int .i64 v137.1.At.Column]] ?_ ?_
            · refine st ?_
              simp
              have r139 := (lexer_scanner_token_2_ok 0 3 w1 v137 q138).frame [1, 0] [[.str w1.s, .int .i64 w1.at_], [.mptr 0 0], [.int .i64 0, .str ([] : List UInt8), .int .i64 0, .int .i64 0]] (by simp)
              try simp [] at r139
              refine callRaw r139 (by simp []) rfl ?_
              simp
            refine awp_ret ?_
            obtain rfl := Option.some.inj h
            simp
end Go.Proofs.YthbjlmoaceaeeaaDoor
set_option linter.unusedVariables false
set_option linter.unusedSimpArgs false
set_option maxRecDepth 100000
set_option maxHeartbeats 1000000
namespace Go.Proofs.YthbjlmoaceaeeaaDoor
open Go Go.Abs
theorem lexer_Tokens_ok (fuel : Nat) (a1 : (List UInt8)) (r : (List Api.Token) × Api.Pos × Int) (h : M.lexer_Tokens fuel a1 = some r) : Pure Tryd.prog 5 [.str a1] (.tup [.sl (r.1.map Api.Token.c), .agg [.int .i64 r.2.1.Line, .int .i64 r.2.1.Column], .int .i64 r.2.2]) := by
  rw [M.lexer_Tokens] at h
  refine pure_of_body Tryd.func5 (by rfl) (by rfl) (by simp) (by simp) (by simp) ?_
  refine cut 71 0 [(0, .str a1), (3, .mptr 0 0)] [[.int .i64 0, .int .i64 0]] ?_ ?_
  · refine st ?_
    simp
  refine awp_seq ?_
  refine cut 71 0 [(0, .str a1), (3, .mptr 0 0), (14, .bool (ltI 16384 (a1.length : Int)))] [[.int .i64 0, .int .i64 0]] ?_ ?_
  · refine st ?_
    simp
  rcases sp h with ⟨g2, h⟩ | ⟨g2, h⟩
  · have c3 := ltT g2
    refine condT rfl g2 ?_
    refine factS 0 rfl fun f4 => ?_
    refine cut 71 0 [(2, .osl ⟨4, 34⟩ (([] : List Api.Token).map Api.Token.c)), (3, .mptr 0 0), (4, .int .i64 5)] [[.int .i64 0, .int .i64 0]] ?_ ?_
    · refine st ?_
      simp
    refine awp_ret ?_
    refine ret_seq ?_
    obtain rfl := Option.some.inj h
    simp
  · have c5 := ltF g2
    refine condF rfl g2 ?_
    refine factS 0 rfl fun f6 => ?_
    refine awp_skip ?_
    refine seq_eq ?_
    refine cut 71 0 [(0, .str a1), (3, .mptr 0 0), (5, .mptr 1 0)] [[.int .i64 0, .int .i64 0], [.str a1, .int .i64 0]] ?_ ?_
    · refine st ?_
      simp
    refine cut 71 0 [(0, .str a1), (3, .mptr 0 0), (5, .mptr 1 0), (6, .osl ⟨4, 34⟩ (([] : List Api.Token).map Api.Token.c))] [[.int .i64 0, .int .i64 0], [.str a1, .int .i64 0]] ?_ ?_
    · refine st ?_
      simp
    refine awp_block ?_
    refine awp_inv (fun p : Nat × (List UInt8) × Int × (List Api.Token) => mkS 71 0 [(0, .str a1), (3, .mptr 0 0), (5, .mptr 1 0), (6, .osl ⟨4, 34⟩ (p.2.2.2.map Api.Token.c))] [[.int .i64 0, .int .i64 0], [.str p.2.1, .int .i64 p.2.2.1]]) (fun p => M.lexer_Tokens_l1 fuel a1 p.1 p.2.1 p.2.2.1 p.2.2.2 = some r) (fun p => p.1) (fuel, a1, 0, ([] : List Api.Token)) h (le_mkS (by simp)) ?_
    rintro ⟨k11, s7, at8, i9⟩ h
    dsimp only at h ⊢
    cases k11 with
    | zero =>
      rw [M.lexer_Tokens_l1] at h; cases h
    | succ k12 =>
      rw [M.lexer_Tokens_l1] at h
      refine awp_block ?_
      refine awp_seq ?_
      obtain ⟨v13, q14, h⟩ := bs h
      refine cut 71 0 [(0, .str a1), (3, .mptr 0 0), (5, .mptr 1 0), (6, .osl ⟨4, 34⟩ (i9.map Api.Token.c)), (7, .int .i64 v13.1)] [[.int .i64 0, .int .i64 0], [.str v13.2.s, .int .i64 v13.2.at_]] ?_ ?_
      · refine st ?_
        simp
        have r55 := (lexer_scanner_skip_ok fuel (Lexer.scanner.mk s7 at8) v13 q14).frame [1] [[.int .i64 0, .int .i64 0], [.str s7, .int .i64 at8]] (by simp)
        try simp [] at r55
        refine callRaw r55 (by simp []) rfl ?_
        simp
      refine cut 71 0 [(0, .str a1), (3, .mptr 0 0), (5, .mptr 1 0), (6, .osl ⟨4, 34⟩ (i9.map Api.Token.c)), (7, .int .i64 v13.1), (22, .bool (leI 0 v13.1))] [[.int .i64 0, .int .i64 0], [.str v13.2.s, .int .i64 v13.2.at_]] ?_ ?_
      · refine st ?_
        simp
      rcases sp h with ⟨g15, h⟩ | ⟨g15, h⟩
      · have c16 := leT g15
        refine condT rfl g15 ?_
        obtain ⟨v17, q18, h⟩ := bs h
        refine cut 71 0 [(2, .osl ⟨4, 34⟩ (([] : List Api.Token).map Api.Token.c)), (3, .mptr 0 0), (4, .int .i64 4)] [[.int .i64 v17.Line, .int .i64 v17.Column], [.str v13.2.s, .int .i64 v13.2.at_]] ?_ ?_
        · refine st ?_
          simp
          have r19 := lexer_place_ok fuel a1 v13.1 v17 q18
          try simp [] at r19
          refine callPure r19 (by simp) rfl ?_
          simp
        refine awp_ret ?_
        refine ret_seq ?_
        refine ret_blk ?_
        refine ret_seq ?_
        refine ret_blk ?_
        obtain rfl := Option.some.inj h
        simp
      · have c20 := leF g15
        refine condF rfl g15 ?_
        refine awp_skip ?_
        refine seq_eq ?_
        refine cut 71 0 [(0, .str a1), (3, .mptr 0 0), (5, .mptr 1 0), (6, .osl ⟨4, 34⟩ (i9.map Api.Token.c)), (8, .int .i64 v13.2.at_)] [[.int .i64 0, .int .i64 0], [.str v13.2.s, .int .i64 v13.2.at_]] ?_ ?_
        · refine st ?_
          simp
        refine awp_seq ?_
        refine awp_block ?_
        refine cut 71 0 [(0, .str a1), (3, .mptr 0 0), (5, .mptr 1 0), (6, .osl ⟨4, 34⟩ (i9.map Api.Token.c)), (8, .int .i64 v13.2.at_), (30, .bool (leI (a1.length : Int) v13.2.at_))] [[.int .i64 0, .int .i64 0], [.str v13.2.s, .int .i64 v13.2.at_]] ?_ ?_
        · refine st ?_
          simp
        rcases sp h with ⟨g21, h⟩ | ⟨g21, h⟩
        · have c22 := leT g21
          refine condT rfl g21 ?_
          obtain ⟨v23, q24, h⟩ := bs h
          obtain ⟨l25, q26, h⟩ := bs h
          obtain ⟨q27, q28⟩ := app_ok q26
          try simp at q27
          refine cut 71 0 [(2, .osl ⟨4, 34⟩ (l25.map Api.Token.c)), (3, .mptr 0 0), (4, .int .i64 0)] [[.int .i64 0, .int .i64 0], [.str v13.2.s, .int .i64 v13.2.at_]] ?_ ?_
          · refine st ?_
            simp [q27, q28]
            have r29 := lexer_place_ok fuel a1 (a1.length : Int) v23 q24
            try simp [q27, q28] at r29
            refine callPure r29 (by simp) rfl ?_
            simp [q27, q28]
          refine awp_ret ?_
          refine ret_blk ?_
          refine ret_seq ?_
          refine ret_blk ?_
          refine ret_seq ?_
          refine ret_blk ?_
          obtain rfl := Option.some.inj h
          simp
        · have c30 := leF g21
          refine condF rfl g21 ?_
          refine cut 71 0 [(0, .str a1), (3, .mptr 0 0), (5, .mptr 1 0), (6, .osl ⟨4, 34⟩ (i9.map Api.Token.c)), (8, .int .i64 v13.2.at_), (44, .bool (eqI (i9.length : Int) 20000))] [[.int .i64 0, .int .i64 0], [.str v13.2.s, .int .i64 v13.2.at_]] ?_ ?_
          · refine st ?_
            simp
          rcases sp h with ⟨g31, h⟩ | ⟨g31, h⟩
          · have c32 := eqT g31
            refine condT rfl g31 ?_
            obtain ⟨v33, q34, h⟩ := bs h
            refine cut 71 0 [(2, .osl ⟨4, 34⟩ (([] : List Api.Token).map Api.Token.c)), (3, .mptr 0 0), (4, .int .i64 5)] [[.int .i64 v33.Line, .int .i64 v33.Column], [.str v13.2.s, .int .i64 v13.2.at_]] ?_ ?_
            · refine st ?_
              simp
              have r35 := lexer_place_ok fuel a1 v13.2.at_ v33 q34
              try simp [] at r35
              refine callPure r35 (by simp) rfl ?_
              simp
            refine awp_ret ?_
            refine ret_blk ?_
            refine ret_seq ?_
            refine ret_blk ?_
            refine ret_seq ?_
            refine ret_blk ?_
            obtain rfl := Option.some.inj h
            simp
          · have c36 := eqF g31
            refine condF rfl g31 ?_
            refine awp_skip ?_
            refine blk_n ?_
            refine seq_eq ?_
            obtain ⟨v37, q38, h⟩ := bs h
            refine cut 71 0 [(0, .str a1), (3, .mptr 0 0), (5, .mptr 1 0), (6, .osl ⟨4, 34⟩ (i9.map Api.Token.c)), (8, .int .i64 v13.2.at_), (9, .mptr 2 0), (10, .int .i64 v37.2.1), (11, .int .i64 v37.2.2.1)] [[.int .i64 0, .int .i64 0], [.str v37.2.2.2.s, .int .i64 v37.2.2.2.at_], [.int .i64 v37.1.Kind, .str v37.1.Text, .int .i64 v37.1.At.Line, .int .i64 v37.1.At.Column]] ?_ ?_
            · refine st ?_
              simp
              have r54 := (lexer_scanner_token_ok fuel v13.2 v37 q38).frame [1] [[.int .i64 0, .int .i64 0], [.str v13.2.s, .int .i64 v13.2.at_]] (by simp)
              try simp [] at r54
              refine callRaw r54 (by simp []) rfl ?_
              simp
            refine awp_seq ?_
            refine cut 71 0 [(0, .str a1), (3, .mptr 0 0), (5, .mptr 1 0), (6, .osl ⟨4, 34⟩ (i9.map Api.Token.c)), (8, .int .i64 v13.2.at_), (9, .mptr 2 0), (10, .int .i64 v37.2.1), (11, .int .i64 v37.2.2.1), (58, .bool (!(eqI v37.2.2.1 0)))] [[.int .i64 0, .int .i64 0], [.str v37.2.2.2.s, .int .i64 v37.2.2.2.at_], [.int .i64 v37.1.Kind, .str v37.1.Text, .int .i64 v37.1.At.Line, .int .i64 v37.1.At.Column]] ?_ ?_
            · refine st ?_
              simp
            rcases sp h with ⟨g39, h⟩ | ⟨g39, h⟩
            · have g40 := notT g39
              have c41 := eqF g40
              refine condT rfl g39 ?_
              obtain ⟨v42, q43, h⟩ := bs h
              refine cut 71 0 [(2, .osl ⟨4, 34⟩ (([] : List Api.Token).map Api.Token.c)), (3, .mptr 0 0), (4, .int .i64 v37.2.2.1)] [[.int .i64 v42.Line, .int .i64 v42.Column], [.str v37.2.2.2.s, .int .i64 v37.2.2.2.at_], [.int .i64 v37.1.Kind, .str v37.1.Text, .int .i64 v37.1.At.Line, .int .i64 v37.1.At.Column]] ?_ ?_
              · refine st ?_
                simp
                have r44 := lexer_place_ok fuel a1 v37.2.1 v42 q43
                try simp [] at r44
                refine callPure r44 (by simp) rfl ?_
                simp
              refine awp_ret ?_
              refine ret_seq ?_
              refine ret_blk ?_
              refine ret_seq ?_
              refine ret_blk ?_
              obtain rfl := Option.some.inj h
              simp
            · have g45 := notF g39
              have c46 := eqT g45
              refine condF rfl g39 ?_
              refine awp_skip ?_
              refine seq_eq ?_
              obtain ⟨v47, q48, h⟩ := bs h
              refine cut 71 0 [(0, .str a1), (3, .mptr 0 0), (5, .mptr 1 0), (6, .osl ⟨4, 34⟩ (i9.map Api.Token.c)), (9, .mptr 2 0)] [[.int .i64 0, .int .i64 0], [.str v37.2.2.2.s, .int .i64 v37.2.2.2.at_], [.int .i64 v37.1.Kind, .str v37.1.Text, .int .i64 v47.Line, .int .i64 v47.Column]] ?_ ?_
              · refine st ?_
                simp
                have r53 := lexer_place_ok fuel a1 v13.2.at_ v47 q48
                try simp [] at r53
                refine callPure r53 (by simp) rfl ?_
                simp
              obtain ⟨l49, q50, h⟩ := bs h
              obtain ⟨q51, q52⟩ := app_ok q50
              try simp at q51
              refine last 71 0 [(0, .str a1), (3, .mptr 0 0), (5, .mptr 1 0), (6, .osl ⟨4, 34⟩ (l49.map Api.Token.c))] [[.int .i64 0, .int .i64 0], [.str v37.2.2.2.s, .int .i64 v37.2.2.2.at_]] ?_ fun zz hs => ?_
              · refine st ?_
                simp [q51, q52]
              refine blk_n ?_
              exact ⟨(k12, v37.2.2.2.s, v37.2.2.2.at_, l49), hs, h, by simp⟩
end Go.Proofs.YthbjlmoaceaeeaaDoor
set_option linter.unusedVariables false
set_option linter.unusedSimpArgs false
set_option maxRecDepth 100000
set_option maxHeartbeats 1000000
namespace Go.Proofs.YthbjlmoaceaeeaaDoor
open Go Go.Abs
theorem law02_awake_ok (fuel : Nat) (r : Bool) (h : M.law02_awake fuel = some r) : Pure Tryd.prog 4 [] (.bool r) := by
  rw [M.law02_awake] at h
  refine pure_of_body Tryd.func4 (by rfl) (by rfl) (by simp) (by simp) (by simp) ?_
  refine cut 61 0 [] [] ?_ ?_
  · refine st ?_
    simp
  obtain ⟨v1, q2, h⟩ := bs h
  refine cut 61 0 [(1, .sl (v1.1.map Api.Token.c)), (3, .int .i64 v1.2.2)] [[.int .i64 v1.2.1.Line, .int .i64 v1.2.1.Column]] ?_ ?_
  · refine st ?_
    simp
    have r27 := lexer_Tokens_ok fuel [118, 97, 108, 32, 120, 32, 61, 32, 126, 32, 49, 32, 40, 42, 32, 111, 110, 101, 32, 42, 41] v1 q2
    try simp [] at r27
    refine callPure r27 (by simp) rfl ?_
    simp
  obtain ⟨v3, q4, h⟩ := bs h
  refine cut 61 0 [(1, .sl (v1.1.map Api.Token.c)), (3, .int .i64 v1.2.2), (5, .mptr 1 0), (6, .int .i64 v3.2.2)] [[.int .i64 v1.2.1.Line, .int .i64 v1.2.1.Column], [.int .i64 v3.2.1.Line, .int .i64 v3.2.1.Column]] ?_ ?_
  · refine st ?_
    simp
    have r26 := lexer_Tokens_ok fuel [97, 32, 33] v3 q4
    try simp [] at r26
    refine callPure r26 (by simp) rfl ?_
    simp
  obtain ⟨v5, q6, h⟩ := bs h
  refine cut 61 0 [(1, .sl (v1.1.map Api.Token.c)), (3, .int .i64 v1.2.2), (5, .mptr 1 0), (6, .int .i64 v3.2.2), (9, .int .i64 v5.2.2)] [[.int .i64 v1.2.1.Line, .int .i64 v1.2.1.Column], [.int .i64 v3.2.1.Line, .int .i64 v3.2.1.Column], [.int .i64 v5.2.1.Line, .int .i64 v5.2.1.Column]] ?_ ?_
  · refine st ?_
    simp
    have r25 := lexer_Tokens_ok fuel [48, 48, 55] v5 q6
    try simp [] at r25
    refine callPure r25 (by simp) rfl ?_
    simp
  obtain ⟨b23, q24, h⟩ := bs h
  refine cut 61 0 [(0, .bool b23)] [[.int .i64 v1.2.1.Line, .int .i64 v1.2.1.Column], [.int .i64 v3.2.1.Line, .int .i64 v3.2.1.Column], [.int .i64 v5.2.1.Line, .int .i64 v5.2.1.Column]] ?_ ?_
  · rcases sp q24 with ⟨g7, q24⟩ | ⟨g7, q24⟩
    · have c8 := eqT g7
      rcases sp q24 with ⟨g9, q24⟩ | ⟨g9, q24⟩
      · have c10 := eqT g9
        obtain ⟨x11, q12, q24⟩ := bs q24
        rcases sp q24 with ⟨g13, q24⟩ | ⟨g13, q24⟩
        · obtain ⟨x14, q15, q24⟩ := bs q24
          rcases sp q24 with ⟨g16, q24⟩ | ⟨g16, q24⟩
          · rcases sp q24 with ⟨g17, q24⟩ | ⟨g17, q24⟩
            · have c18 := eqT g17
              rcases sp q24 with ⟨g19, q24⟩ | ⟨g19, q24⟩
              · obtain rfl := Option.some.inj q24
                refine st ?_
                simp [g7, g9, q12, g13, q15, g16, g17, g19]
              · obtain rfl := Option.some.inj q24
                refine st ?_
                simp [g7, g9, q12, g13, q15, g16, g17, g19]
            · have c20 := eqF g17
              obtain rfl := Option.some.inj q24
              refine st ?_
              simp [g7, g9, q12, g13, q15, g16, g17]
          · obtain rfl := Option.some.inj q24
            refine st ?_
            simp [g7, g9, q12, g13, q15, g16]
        · obtain rfl := Option.some.inj q24
          refine st ?_
          simp [g7, g9, q12, g13]
      · have c21 := eqF g9
        obtain rfl := Option.some.inj q24
        refine st ?_
        simp [g7, g9]
    · have c22 := eqF g7
      obtain rfl := Option.some.inj q24
      refine st ?_
      simp [g7]
  refine awp_ret ?_
  obtain rfl := Option.some.inj h
  simp
end Go.Proofs.YthbjlmoaceaeeaaDoor
set_option linter.unusedVariables false
set_option linter.unusedSimpArgs false
set_option maxRecDepth 100000
set_option maxHeartbeats 1000000
namespace Go.Proofs.YthbjlmoaceaeeaaDoor
open Go Go.Abs
theorem law02_LexerPlaces_1_ok (p1 : Api.Pos) (c2 : (List (List UInt8))) (r : (List UInt8) × Bool) (h : M.law02_LexerPlaces_1 p1 c2 = some r) : Raw Tryd.prog 7 [.agg [.int .i64 p1.Line, .int .i64 p1.Column], .mptr 0 0] [[.sl (c2.map cS)]] (.tup [.str r.1, .bool r.2]) [[.sl (c2.map cS)]] := by
  rw [M.law02_LexerPlaces_1] at h
  refine raw_of_bodyB Tryd.func7 (by rfl) (by rfl) (by simp) (by simp) ?_
  refine cut 43 1 [(1, .mptr 0 0), (2, .mptr 1 0)] [[.sl (c2.map cS)], [.int .i64 p1.Line, .int .i64 p1.Column]] ?_ ?_
  · refine st ?_
    simp
  refine awp_seq ?_
  obtain ⟨b24, q25, h⟩ := bs h
  refine cut 43 1 [(1, .mptr 0 0), (2, .mptr 1 0), (32, .bool b24)] [[.sl (c2.map cS)], [.int .i64 p1.Line, .int .i64 p1.Column]] ?_ ?_
  · rcases sp q25 with ⟨g3, q25⟩ | ⟨g3, q25⟩
    · have c4 := ltT g3
      obtain rfl := Option.some.inj q25
      refine awp_region_draw [] mixed (n := 43) rfl (by decide) ?_
      simp [g3]
    · have c5 := ltF g3
      rcases sp q25 with ⟨g6, q25⟩ | ⟨g6, q25⟩
      · have c7 := ltT g6
        refine factCL 0 0 rfl rfl rfl fun f8 => ?_
        rw [List.length_map] at f8
        obtain rfl := Option.some.inj q25
        refine awp_region_draw [] mixed (n := 43) rfl (by decide) ?_
        simp [g3, g6]
      · have c9 := ltF g6
        refine factCL 0 0 rfl rfl rfl fun f10 => ?_
        rw [List.length_map] at f10
        rcases sp q25 with ⟨g11, q25⟩ | ⟨g11, q25⟩
        · have c12 := ltT g11
          obtain rfl := Option.some.inj q25
          refine awp_region_draw [] mixed (n := 43) rfl (by decide) ?_
          simp [g3, g6, g11]
        · have c13 := ltF g11
          have q14 : Rng .i64 (p1.Line - 1) := by simp only [Rng, inR]; omega
          try simp at q14
          obtain ⟨x15, q16, q25⟩ := bs q25
          obtain ⟨q17, q18⟩ := idx_ok q16
          try simp at q17
          try simp at q18
          obtain ⟨n19, q20, q25⟩ := bs q25
          obtain ⟨q21, q22⟩ := chk_ok q20
          try simp at q21
          try simp at q22
          have c23 := q21; simp only [Rng, inR] at c23
          obtain rfl := Option.some.inj q25
          refine awp_region_draw [] mixed (n := 43) rfl (by decide) ?_
          simp [g3, g6, g11, q14, q17, q18, q21, q22]
  rcases sp h with ⟨g26, h⟩ | ⟨g26, h⟩
  · refine condT rfl g26 ?_
    refine cut 43 1 [(3, .str ([] : List UInt8)), (4, .bool false)] [[.sl (c2.map cS)], [.int .i64 p1.Line, .int .i64 p1.Column]] ?_ ?_
    · refine st ?_
      simp
    refine awp_ret ?_
    refine ret_seq ?_
    obtain rfl := Option.some.inj h
    simp
  · refine condF rfl g26 ?_
    refine awp_skip ?_
    refine seq_eq ?_
    obtain ⟨n27, q28, h⟩ := bs h
    obtain ⟨q29, q30⟩ := chk_ok q28
    try simp at q29
    try simp at q30
    have c31 := q29; simp only [Rng, inR] at c31
    obtain ⟨x32, q33, h⟩ := bs h
    obtain ⟨q34, q35⟩ := idx_ok q33
    obtain ⟨n36, q37, h⟩ := bs h
    obtain ⟨q38, q39⟩ := chk_ok q37
    try simp at q38
    try simp at q39
    have c40 := q38; simp only [Rng, inR] at c40
    obtain ⟨s41, q42, h⟩ := bs h
    obtain ⟨q43, q44⟩ := subC_ok q42
    try simp at q43
    try simp at q44
    refine cut 43 1 [(3, .str s41), (4, .bool true)] [[.sl (c2.map cS)], [.int .i64 p1.Line, .int .i64 p1.Column]] ?_ ?_
    · refine awp_region_draw [] mixed (n := 43) rfl (by decide) ?_
      simp [q29, q30, q34, q35, q38, q39, q43, q44]
    refine awp_ret ?_
    obtain rfl := Option.some.inj h
    simp
end Go.Proofs.YthbjlmoaceaeeaaDoor
set_option linter.unusedVariables false
set_option linter.unusedSimpArgs false
set_option maxRecDepth 100000
set_option maxHeartbeats 1000000
namespace Go.Proofs.YthbjlmoaceaeeaaDoor
open Go Go.Abs
theorem strings_Builder_WriteString_ok (s1 : (List UInt8)) (b2 : (List UInt8)) (r : Int × (List UInt8)) (h : M.strings_Builder_WriteString s1 b2 = some r) : Raw Tryd.prog 15 [.mptr 0 0, .str s1] [[.baddr 50 0, .osl ⟨1, 5⟩ (b2.map cU)]] (.tup [.int .i64 r.1, .nilif]) [[.baddr 50 0, .osl ⟨1, 5⟩ (r.2.map cU)]] := by
  rw [M.strings_Builder_WriteString] at h
  refine raw_of_bodyB Tryd.func15 (by rfl) (by rfl) (by simp) (by simp) ?_
  refine cut 19 1 [(0, .mptr 0 0), (1, .str s1)] [[.baddr 50 0, .osl ⟨1, 5⟩ (b2.map cU)]] ?_ ?_
  · refine st ?_
    simp
  obtain ⟨v3, q4, h⟩ := bs h
  refine cut 19 1 [(0, .mptr 0 0), (1, .str s1)] [[.baddr 50 0, .osl ⟨1, 5⟩ (b2.map cU)]] ?_ ?_
  · refine st ?_
    simp
    have r9 := (strings_Builder_copyCheck_ok b2 v3 q4).frame [0] [[.baddr 50 0, .osl ⟨1, 5⟩ (b2.map cU)]] (by simp)
    try simp [] at r9
    refine callRaw r9 (by simp []) rfl ?_
    simp
  obtain ⟨l5, q6, h⟩ := bs h
  obtain ⟨q7, q8⟩ := app_ok q6
  try simp at q7
  refine cut 19 1 [(1, .str s1)] [[.baddr 50 0, .osl ⟨1, 5⟩ (l5.map cU)]] ?_ ?_
  · refine st ?_
    simp [q7, q8]
  refine cut 19 1 [(4, .int .i64 (s1.length : Int)), (5, .nilif)] [[.baddr 50 0, .osl ⟨1, 5⟩ (l5.map cU)]] ?_ ?_
  · refine st ?_
    simp
  refine awp_ret ?_
  obtain rfl := Option.some.inj h
  simp
end Go.Proofs.YthbjlmoaceaeeaaDoor
set_option linter.unusedVariables false
set_option linter.unusedSimpArgs false
set_option maxRecDepth 100000
set_option maxHeartbeats 1000000
namespace Go.Proofs.YthbjlmoaceaeeaaDoor
open Go Go.Abs
theorem lexer_Quote_ok (fuel : Nat) (s1 : (List UInt8)) (r : (List UInt8) × Int) (h : M.lexer_Quote fuel s1 = some r) : Pure Tryd.prog 8 [.str s1] (.tup [.str r.1, .int .i64 r.2]) := by
  rw [M.lexer_Quote] at h
  refine pure_of_body Tryd.func8 (by rfl) (by rfl) (by simp) (by simp) (by simp) ?_
  refine cut 42 0 [(0, .str s1)] [] ?_ ?_
  · refine st ?_
    simp
  refine awp_seq ?_
  refine cut 42 0 [(0, .str s1), (9, .bool (ltI 16384 (s1.length : Int)))] [] ?_ ?_
  · refine st ?_
    simp
  rcases sp h with ⟨g2, h⟩ | ⟨g2, h⟩
  · have c3 := ltT g2
    refine condT rfl g2 ?_
    refine factS 0 rfl fun f4 => ?_
    refine cut 42 0 [(2, .str ([] : List UInt8)), (3, .int .i64 5)] [] ?_ ?_
    · refine st ?_
      simp
    refine awp_ret ?_
    refine ret_seq ?_
    obtain rfl := Option.some.inj h
    simp
  · have c5 := ltF g2
    refine condF rfl g2 ?_
    refine factS 0 rfl fun f6 => ?_
    refine awp_skip ?_
    refine seq_eq ?_
    refine cut 42 0 [(0, .str s1), (4, .mptr 0 0)] [[.baddr 50 0, .osl ⟨1, 5⟩ (([] : List UInt8).map cU)]] ?_ ?_
    · refine st ?_
      simp
    obtain ⟨v7, q8, h⟩ := bs h
    refine cut 42 0 [(0, .str s1), (4, .mptr 0 0)] [[.baddr 50 0, .osl ⟨1, 5⟩ (v7.map cU)]] ?_ ?_
    · refine st ?_
      simp
      have r60 := (strings_Builder_WriteByte_ok (34 : UInt8) ([] : List UInt8) v7 q8).frame [0] [[.baddr 50 0, .osl ⟨1, 5⟩ (([] : List UInt8).map cU)]] (by simp)
      try simp [] at r60
      refine callRaw r60 (by simp []) rfl ?_
      simp
    refine awp_seq ?_
    refine cut 42 0 [(0, .str s1), (4, .mptr 0 0), (12, .int .i64 (s1.length : Int)), (13, .int .i64 0)] [[.baddr 50 0, .osl ⟨1, 5⟩ (v7.map cU)]] ?_ ?_
    · refine st ?_
      simp
    refine awp_block ?_
    obtain ⟨o12, l13, h⟩ := bs h
    refine awp_inv (fun p : Nat × (List UInt8) × Nat => mkS 42 0 [(0, .str s1), (4, .mptr 0 0), (12, .int .i64 (s1.length : Int)), (13, .int .i64 ((p.2.2 : Nat) : Int))] [[.baddr 50 0, .osl ⟨1, 5⟩ (p.2.1.map cU)]]) (fun p => M.lexer_Quote_l1 s1 p.1 p.2.1 p.2.2 = some o12) (fun p => p.1) (fuel, v7, 0) l13 (le_mkS (by simp)) ?_
    rintro ⟨k14, buf9, i10⟩ l13
    dsimp only at l13 ⊢
    cases k14 with
    | zero =>
      rw [M.lexer_Quote_l1] at l13; cases l13
    | succ k15 =>
      rw [M.lexer_Quote_l1] at l13
      refine cut 42 0 [(0, .str s1), (4, .mptr 0 0), (12, .int .i64 (s1.length : Int)), (13, .int .i64 ((i10 : Nat) : Int)), (14, .bool (ltI ((i10 : Nat) : Int) (s1.length : Int)))] [[.baddr 50 0, .osl ⟨1, 5⟩ (buf9.map cU)]] ?_ ?_
      · refine st ?_
        simp
      refine awp_seq ?_
      rcases sp l13 with ⟨g16, l13⟩ | ⟨g16, l13⟩
      · have c17 := ltT g16
        refine condT rfl g16 ?_
        refine awp_skip ?_
        refine seq_eq ?_
        refine awp_seq ?_
        refine awp_block ?_
        refine cut 42 0 [(0, .str s1), (4, .mptr 0 0), (5, .int .i64 ((i10 : Nat) : Int)), (12, .int .i64 (s1.length : Int)), (13, .int .i64 ((i10 : Nat) : Int))] [[.baddr 50 0, .osl ⟨1, 5⟩ (buf9.map cU)]] ?_ ?_
        · refine st ?_
          simp
        obtain ⟨c18, q19, l13⟩ := bs l13
        refine cut 42 0 [(0, .str s1), (4, .mptr 0 0), (6, .int .u8 (c18.toNat : Int)), (12, .int .i64 (s1.length : Int)), (13, .int .i64 ((i10 : Nat) : Int))] [[.baddr 50 0, .osl ⟨1, 5⟩ (buf9.map cU)]] ?_ ?_
        · refine st ?_
          simp [q19]
        refine awp_block ?_
        refine cut 42 0 [(0, .str s1), (4, .mptr 0 0), (6, .int .u8 (c18.toNat : Int)), (12, .int .i64 (s1.length : Int)), (13, .int .i64 ((i10 : Nat) : Int)), (21, .bool (eqI (c18.toNat : Int) 10))] [[.baddr 50 0, .osl ⟨1, 5⟩ (buf9.map cU)]] ?_ ?_
        · refine st ?_
          simp
        rcases sp l13 with ⟨g20, l13⟩ | ⟨g20, l13⟩
        · have c21 := eqT g20
          refine condT rfl g20 ?_
          obtain ⟨v22, q23, l13⟩ := bs l13
          refine last 42 0 [(0, .str s1), (4, .mptr 0 0), (12, .int .i64 (s1.length : Int)), (13, .int .i64 ((i10 : Nat) : Int))] [[.baddr 50 0, .osl ⟨1, 5⟩ (v22.2.map cU)]] ?_ fun zz hs => ?_
          · refine st ?_
            simp
            have r25 := (strings_Builder_WriteString_ok [92, 110] buf9 v22 q23).frame [0] [[.baddr 50 0, .osl ⟨1, 5⟩ (buf9.map cU)]] (by simp)
            try simp [] at r25
            refine callRaw r25 (by simp []) rfl ?_
            simp
          refine blk_n ?_
          refine blk_n ?_
          refine seq_le ?_ hs
          have q24 : Rng .i64 (((i10 : Nat) : Int) + 1) := by simp only [Rng, inR]; omega
          try simp at q24
          refine last 42 0 [(0, .str s1), (4, .mptr 0 0), (12, .int .i64 (s1.length : Int)), (13, .int .i64 ((i10 + 1 : Nat) : Int))] [[.baddr 50 0, .osl ⟨1, 5⟩ (v22.2.map cU)]] ?_ fun zz hs => ?_
          · refine st ?_
            simp [q24]
          exact ⟨(k15, v22.2, i10 + 1), hs, l13, by simp⟩
        · have c26 := eqF g20
          refine condF rfl g20 ?_
          obtain ⟨v27, q28, l13⟩ := bs l13
          refine cut 42 0 [(0, .str s1), (4, .mptr 0 0), (6, .int .u8 (c18.toNat : Int)), (12, .int .i64 (s1.length : Int)), (13, .int .i64 ((i10 : Nat) : Int)), (25, .bool (!v27))] [[.baddr 50 0, .osl ⟨1, 5⟩ (buf9.map cU)]] ?_ ?_
          · refine st ?_
            simp
            have r51 := lexer_visible_ok c18 v27 q28
            try simp [] at r51
            refine callPure r51 (by simp) rfl ?_
            simp
          rcases sp l13 with ⟨g29, l13⟩ | ⟨g29, l13⟩
          · have g30 := notT g29
            refine condT rfl g29 ?_
            refine cut 42 0 [(2, .str ([] : List UInt8)), (3, .int .i64 3)] [[.baddr 50 0, .osl ⟨1, 5⟩ (buf9.map cU)]] ?_ ?_
            · refine st ?_
              simp
            refine awp_ret ?_
            refine ret_blk ?_
            refine ret_blk ?_
            refine ret_seq ?_
            replace h := retL l13 h
            refine ret_seq ?_
            refine ret_blk ?_
            refine ret_seq ?_
            obtain rfl := Option.some.inj h
            simp
          · have g31 := notF g29
            refine condF rfl g29 ?_
            refine cut 42 0 [(0, .str s1), (4, .mptr 0 0), (6, .int .u8 (c18.toNat : Int)), (12, .int .i64 (s1.length : Int)), (13, .int .i64 ((i10 : Nat) : Int)), (29, .bool ((eqI (c18.toNat : Int) 34) || (eqI (c18.toNat : Int) 92)))] [[.baddr 50 0, .osl ⟨1, 5⟩ (buf9.map cU)]] ?_ ?_
            · rcases tf (eqI (c18.toNat : Int) 34) with g32 | g32
              · have c33 := eqT g32
                refine st ?_
                simp [g32]
              · have c34 := eqF g32
                refine st ?_
                simp [g32]
            rcases sp l13 with ⟨g35, l13⟩ | ⟨g35, l13⟩
            · refine condT rfl g35 ?_
              obtain ⟨v36, q37, l13⟩ := bs l13
              refine cut 42 0 [(0, .str s1), (4, .mptr 0 0), (6, .int .u8 (c18.toNat : Int)), (12, .int .i64 (s1.length : Int)), (13, .int .i64 ((i10 : Nat) : Int))] [[.baddr 50 0, .osl ⟨1, 5⟩ (v36.map cU)]] ?_ ?_
              · refine st ?_
                simp
                have r42 := (strings_Builder_WriteByte_ok (92 : UInt8) buf9 v36 q37).frame [0] [[.baddr 50 0, .osl ⟨1, 5⟩ (buf9.map cU)]] (by simp)
                try simp [] at r42
                refine callRaw r42 (by simp []) rfl ?_
                simp
              obtain ⟨v38, q39, l13⟩ := bs l13
              refine last 42 0 [(0, .str s1), (4, .mptr 0 0), (12, .int .i64 (s1.length : Int)), (13, .int .i64 ((i10 : Nat) : Int))] [[.baddr 50 0, .osl ⟨1, 5⟩ (v38.map cU)]] ?_ fun zz hs => ?_
              · refine st ?_
                simp
                have r41 := (strings_Builder_WriteByte_ok c18 v36 v38 q39).frame [0] [[.baddr 50 0, .osl ⟨1, 5⟩ (v36.map cU)]] (by simp)
                try simp [] at r41
                refine callRaw r41 (by simp []) rfl ?_
                simp
              refine blk_n ?_
              refine blk_n ?_
              refine seq_le ?_ hs
              have q40 : Rng .i64 (((i10 : Nat) : Int) + 1) := by simp only [Rng, inR]; omega
              try simp at q40
              refine last 42 0 [(0, .str s1), (4, .mptr 0 0), (12, .int .i64 (s1.length : Int)), (13, .int .i64 ((i10 + 1 : Nat) : Int))] [[.baddr 50 0, .osl ⟨1, 5⟩ (v38.map cU)]] ?_ fun zz hs => ?_
              · refine st ?_
                simp [q40]
              exact ⟨(k15, v38, i10 + 1), hs, l13, by simp⟩
            · obtain ⟨g43, g44⟩ := orF g35
              have c45 := eqF g43
              have c46 := eqF g44
              refine condF rfl g35 ?_
              obtain ⟨v47, q48, l13⟩ := bs l13
              refine last 42 0 [(0, .str s1), (4, .mptr 0 0), (12, .int .i64 (s1.length : Int)), (13, .int .i64 ((i10 : Nat) : Int))] [[.baddr 50 0, .osl ⟨1, 5⟩ (v47.map cU)]] ?_ fun zz hs => ?_
              · refine st ?_
                simp
                have r50 := (strings_Builder_WriteByte_ok c18 buf9 v47 q48).frame [0] [[.baddr 50 0, .osl ⟨1, 5⟩ (buf9.map cU)]] (by simp)
                try simp [] at r50
                refine callRaw r50 (by simp []) rfl ?_
                simp
              refine blk_n ?_
              refine blk_n ?_
              refine seq_le ?_ hs
              have q49 : Rng .i64 (((i10 : Nat) : Int) + 1) := by simp only [Rng, inR]; omega
              try simp at q49
              refine last 42 0 [(0, .str s1), (4, .mptr 0 0), (12, .int .i64 (s1.length : Int)), (13, .int .i64 ((i10 + 1 : Nat) : Int))] [[.baddr 50 0, .osl ⟨1, 5⟩ (v47.map cU)]] ?_ fun zz hs => ?_
              · refine st ?_
                simp [q49]
              exact ⟨(k15, v47, i10 + 1), hs, l13, by simp⟩
      · have c52 := ltF g16
        refine condF rfl g16 ?_
        refine awp_exit ?_
        refine exit_seq ?_
        rcases o12 with o12 | o11
        · cases l13
        have q53 := Sum.inr.inj (Option.some.inj l13)
        replace h := elimR h
        have q53 := q53.symm
        refine exit_seq ?_
        refine exit_blk ?_
        refine seq_le (t := mkS 42 0 [(4, .mptr 0 0)] [[.baddr 50 0, .osl ⟨1, 5⟩ (o11.map cU)]]) ?_ (le_mkS (by simp [q53]))
        obtain ⟨v54, q55, h⟩ := bs h
        refine cut 42 0 [(4, .mptr 0 0)] [[.baddr 50 0, .osl ⟨1, 5⟩ (v54.map cU)]] ?_ ?_
        · refine st ?_
          simp
          have r59 := (strings_Builder_WriteByte_ok (34 : UInt8) o11 v54 q55).frame [0] [[.baddr 50 0, .osl ⟨1, 5⟩ (o11.map cU)]] (by simp)
          try simp [] at r59
          refine callRaw r59 (by simp []) rfl ?_
          simp
        obtain ⟨v56, q57, h⟩ := bs h
        refine cut 42 0 [(2, .str v56), (3, .int .i64 0)] [[.baddr 50 0, .osl ⟨1, 5⟩ (v54.map cU)]] ?_ ?_
        · refine st ?_
          simp
          have r58 := (strings_Builder_String_ok v54 v56 q57).frame [0] [[.baddr 50 0, .osl ⟨1, 5⟩ (v54.map cU)]] (by simp)
          try simp [] at r58
          refine callRaw r58 (by simp []) rfl ?_
          simp
        refine awp_ret ?_
        obtain rfl := Option.some.inj h
        simp
end Go.Proofs.YthbjlmoaceaeeaaDoor
set_option linter.unusedVariables false
set_option linter.unusedSimpArgs false
set_option maxRecDepth 100000
set_option maxHeartbeats 1000000
namespace Go.Proofs.YthbjlmoaceaeeaaDoor
open Go Go.Abs
theorem law02_LexerPlaces_ok (fuel : Nat) (a1 : (List UInt8)) (r : Bool) (h : M.law02_LexerPlaces fuel a1 = some r) : Pure Tryd.prog 3 [.str a1] (.bool r) := by
  rw [M.law02_LexerPlaces] at h
  refine pure_of_body Tryd.func3 (by rfl) (by rfl) (by simp) (by simp) (by simp) ?_
  refine cut 142 0 [(0, .str a1)] [] ?_ ?_
  · refine st ?_
    simp
  refine awp_seq ?_
  obtain ⟨v2, q3, h⟩ := bs h
  refine cut 142 0 [(0, .str a1), (18, .bool (!v2))] [] ?_ ?_
  · refine st ?_
    simp
    have r129 := law02_awake_ok fuel v2 q3
    try simp [] at r129
    refine callPure r129 (by simp) rfl ?_
    simp
  rcases sp h with ⟨g4, h⟩ | ⟨g4, h⟩
  · have g5 := notT g4
    refine condT rfl g4 ?_
    refine cut 142 0 [(2, .bool false)] [] ?_ ?_
    · refine st ?_
      simp
    refine awp_ret ?_
    refine ret_seq ?_
    obtain rfl := Option.some.inj h
    simp
  · have g6 := notF g4
    refine condF rfl g4 ?_
    refine awp_skip ?_
    refine seq_eq ?_
    refine awp_seq ?_
    refine cut 142 0 [(0, .str a1), (21, .bool (ltI 1500 (a1.length : Int)))] [] ?_ ?_
    · refine st ?_
      simp
    rcases sp h with ⟨g7, h⟩ | ⟨g7, h⟩
    · have c8 := ltT g7
      refine condT rfl g7 ?_
      refine factS 0 rfl fun f9 => ?_
      refine cut 142 0 [(2, .bool true)] [] ?_ ?_
      · refine st ?_
        simp
      refine awp_ret ?_
      refine ret_seq ?_
      obtain rfl := Option.some.inj h
      simp
    · have c10 := ltF g7
      refine condF rfl g7 ?_
      refine factS 0 rfl fun f11 => ?_
      refine awp_skip ?_
      refine seq_eq ?_
      obtain ⟨v12, q13, h⟩ := bs h
      refine cut 142 0 [(0, .str a1), (3, .sl (v12.1.map Api.Token.c)), (4, .mptr 0 0), (5, .int .i64 v12.2.2)] [[.int .i64 v12.2.1.Line, .int .i64 v12.2.1.Column]] ?_ ?_
      · refine st ?_
        simp
        have r128 := lexer_Tokens_ok fuel a1 v12 q13
        try simp [] at r128
        refine callPure r128 (by simp) rfl ?_
        simp
      obtain ⟨v14, q15, h⟩ := bs h
      refine cut 142 0 [(3, .sl (v12.1.map Api.Token.c)), (4, .mptr 0 0), (5, .int .i64 v12.2.2), (6, .mptr 1 0)] [[.int .i64 v12.2.1.Line, .int .i64 v12.2.1.Column], [.sl (v14.map cS)]] ?_ ?_
      · refine st ?_
        simp
        have r127 := strings_Split_ok a1 [10] v14 q15
        try simp [] at r127
        refine callPure r127 (by simp) rfl ?_
        simp
      refine cut 142 0 [(3, .sl (v12.1.map Api.Token.c)), (4, .mptr 0 0), (5, .int .i64 v12.2.2), (7, .fn (.func 7) [] [.mptr 1 0])] [[.int .i64 v12.2.1.Line, .int .i64 v12.2.1.Column], [.sl (v14.map cS)]] ?_ ?_
      · refine st ?_
        simp
      refine awp_seq ?_
      refine cut 142 0 [(3, .sl (v12.1.map Api.Token.c)), (4, .mptr 0 0), (7, .fn (.func 7) [] [.mptr 1 0]), (32, .bool (!(eqI v12.2.2 0)))] [[.int .i64 v12.2.1.Line, .int .i64 v12.2.1.Column], [.sl (v14.map cS)]] ?_ ?_
      · refine st ?_
        simp
      rcases sp h with ⟨g16, h⟩ | ⟨g16, h⟩
      · have g17 := notT g16
        have c18 := eqF g17
        refine condT rfl g16 ?_
        obtain ⟨v19, q20, h⟩ := bs h
        refine cut 142 0 [(3, .sl (v12.1.map Api.Token.c)), (9, .bool v19.2)] [[.int .i64 v12.2.1.Line, .int .i64 v12.2.1.Column], [.sl (v14.map cS)]] ?_ ?_
        · refine st ?_
          simp
          have r22 := (law02_LexerPlaces_1_ok v12.2.1 v14 v19 q20).frame [1] [[.int .i64 v12.2.1.Line, .int .i64 v12.2.1.Column], [.sl (v14.map cS)]] (by simp)
          try simp [] at r22
          refine callRaw r22 (by simp []) rfl ?_
          simp
        refine cut 142 0 [(2, .bool (v19.2 && (eqI (v12.1.length : Int) 0)))] [[.int .i64 v12.2.1.Line, .int .i64 v12.2.1.Column], [.sl (v14.map cS)]] ?_ ?_
        · rcases tf (v19.2) with g21 | g21
          · refine st ?_
            simp [g21]
          · refine st ?_
            simp [g21]
        refine awp_ret ?_
        refine ret_seq ?_
        obtain rfl := Option.some.inj h
        simp
      · have g23 := notF g16
        have c24 := eqT g23
        refine condF rfl g16 ?_
        refine awp_skip ?_
        refine seq_eq ?_
        refine awp_seq ?_
        refine cut 142 0 [(3, .sl (v12.1.map Api.Token.c)), (7, .fn (.func 7) [] [.mptr 1 0]), (45, .sl (v12.1.map Api.Token.c)), (46, .int .i64 (v12.1.length : Int)), (47, .int .i64 0)] [[.int .i64 v12.2.1.Line, .int .i64 v12.2.1.Column], [.sl (v14.map cS)]] ?_ ?_
        · refine st ?_
          simp
        refine awp_block ?_
        obtain ⟨o27, l28, h⟩ := bs h
        refine awp_inv (fun p : Nat × Nat => mkS 142 0 [(3, .sl (v12.1.map Api.Token.c)), (7, .fn (.func 7) [] [.mptr 1 0]), (45, .sl (v12.1.map Api.Token.c)), (46, .int .i64 (v12.1.length : Int)), (47, .int .i64 ((p.2 : Nat) : Int))] [[.int .i64 v12.2.1.Line, .int .i64 v12.2.1.Column], [.sl (v14.map cS)]]) (fun p => M.law02_LexerPlaces_l1 fuel v12 v14 p.1 p.2 = some o27) (fun p => p.1) (fuel, 0) l28 (le_mkS (by simp)) ?_
        rintro ⟨k29, i25⟩ l28
        dsimp only at l28 ⊢
        cases k29 with
        | zero =>
          rw [M.law02_LexerPlaces_l1] at l28; cases l28
        | succ k30 =>
          rw [M.law02_LexerPlaces_l1] at l28
          refine cut 142 0 [(3, .sl (v12.1.map Api.Token.c)), (7, .fn (.func 7) [] [.mptr 1 0]), (45, .sl (v12.1.map Api.Token.c)), (46, .int .i64 (v12.1.length : Int)), (47, .int .i64 ((i25 : Nat) : Int)), (48, .bool (ltI ((i25 : Nat) : Int) (v12.1.length : Int)))] [[.int .i64 v12.2.1.Line, .int .i64 v12.2.1.Column], [.sl (v14.map cS)]] ?_ ?_
          · refine st ?_
            simp
          refine awp_seq ?_
          rcases sp l28 with ⟨g31, l28⟩ | ⟨g31, l28⟩
          · have c32 := ltT g31
            refine condT rfl g31 ?_
            refine factL 3 rfl fun f33 => ?_
            rw [List.length_map] at f33
            refine awp_skip ?_
            refine seq_eq ?_
            refine awp_seq ?_
            refine awp_block ?_
            obtain ⟨x34, q35, l28⟩ := bs l28
            refine cut 142 0 [(3, .sl (v12.1.map Api.Token.c)), (7, .fn (.func 7) [] [.mptr 1 0]), (10, .int .i64 ((i25 : Nat) : Int)), (11, .mptr 2 0), (45, .sl (v12.1.map Api.Token.c)), (46, .int .i64 (v12.1.length : Int)), (47, .int .i64 ((i25 : Nat) : Int))] [[.int .i64 v12.2.1.Line, .int .i64 v12.2.1.Column], [.sl (v14.map cS)], [.int .i64 x34.Kind, .str x34.Text, .int .i64 x34.At.Line, .int .i64 x34.At.Column]] ?_ ?_
            · refine st ?_
              simp [q35]
            obtain ⟨v36, q37, l28⟩ := bs l28
            refine cut 142 0 [(3, .sl (v12.1.map Api.Token.c)), (7, .fn (.func 7) [] [.mptr 1 0]), (10, .int .i64 ((i25 : Nat) : Int)), (11, .mptr 2 0), (12, .str v36.1), (13, .bool v36.2), (45, .sl (v12.1.map Api.Token.c)), (46, .int .i64 (v12.1.length : Int)), (47, .int .i64 ((i25 : Nat) : Int))] [[.int .i64 v12.2.1.Line, .int .i64 v12.2.1.Column], [.sl (v14.map cS)], [.int .i64 x34.Kind, .str x34.Text, .int .i64 x34.At.Line, .int .i64 x34.At.Column]] ?_ ?_
            · refine st ?_
              simp
              have r123 := (law02_LexerPlaces_1_ok x34.At v14 v36 q37).frame [1] [[.int .i64 v12.2.1.Line, .int .i64 v12.2.1.Column], [.sl (v14.map cS)], [.int .i64 x34.Kind, .str x34.Text, .int .i64 x34.At.Line, .int .i64 x34.At.Column]] (by simp)
              try simp [] at r123
              refine callRaw r123 (by simp []) rfl ?_
              simp
            refine cut 142 0 [(3, .sl (v12.1.map Api.Token.c)), (7, .fn (.func 7) [] [.mptr 1 0]), (10, .int .i64 ((i25 : Nat) : Int)), (11, .mptr 2 0), (12, .str v36.1), (13, .bool v36.2), (14, .str x34.Text), (45, .sl (v12.1.map Api.Token.c)), (46, .int .i64 (v12.1.length : Int)), (47, .int .i64 ((i25 : Nat) : Int))] [[.int .i64 v12.2.1.Line, .int .i64 v12.2.1.Column], [.sl (v14.map cS)], [.int .i64 x34.Kind, .str x34.Text, .int .i64 x34.At.Line, .int .i64 x34.At.Column]] ?_ ?_
            · refine st ?_
              simp
            refine awp_seq ?_
            refine cut 142 0 [(3, .sl (v12.1.map Api.Token.c)), (7, .fn (.func 7) [] [.mptr 1 0]), (10, .int .i64 ((i25 : Nat) : Int)), (11, .mptr 2 0), (12, .str v36.1), (13, .bool v36.2), (14, .str x34.Text), (45, .sl (v12.1.map Api.Token.c)), (46, .int .i64 (v12.1.length : Int)), (47, .int .i64 ((i25 : Nat) : Int)), (63, .bool (eqI x34.Kind 5))] [[.int .i64 v12.2.1.Line, .int .i64 v12.2.1.Column], [.sl (v14.map cS)], [.int .i64 x34.Kind, .str x34.Text, .int .i64 x34.At.Line, .int .i64 x34.At.Column]] ?_ ?_
            · refine st ?_
              simp
            rcases sp l28 with ⟨g38, l28⟩ | ⟨g38, l28⟩
            · have c39 := eqT g38
              refine condT rfl g38 ?_
              obtain ⟨v40, q41, l28⟩ := bs l28
              refine cut 142 0 [(3, .sl (v12.1.map Api.Token.c)), (7, .fn (.func 7) [] [.mptr 1 0]), (10, .int .i64 ((i25 : Nat) : Int)), (11, .mptr 2 0), (12, .str v36.1), (13, .bool v36.2), (15, .str v40.1), (16, .int .i64 v40.2), (45, .sl (v12.1.map Api.Token.c)), (46, .int .i64 (v12.1.length : Int)), (47, .int .i64 ((i25 : Nat) : Int))] [[.int .i64 v12.2.1.Line, .int .i64 v12.2.1.Column], [.sl (v14.map cS)], [.int .i64 x34.Kind, .str x34.Text, .int .i64 x34.At.Line, .int .i64 x34.At.Column]] ?_ ?_
              · refine st ?_
                simp
                have r84 := lexer_Quote_ok fuel x34.Text v40 q41
                try simp [] at r84
                refine callPure r84 (by simp) rfl ?_
                simp
              refine awp_seq ?_
              refine cut 142 0 [(3, .sl (v12.1.map Api.Token.c)), (7, .fn (.func 7) [] [.mptr 1 0]), (10, .int .i64 ((i25 : Nat) : Int)), (11, .mptr 2 0), (12, .str v36.1), (13, .bool v36.2), (15, .str v40.1), (45, .sl (v12.1.map Api.Token.c)), (46, .int .i64 (v12.1.length : Int)), (47, .int .i64 ((i25 : Nat) : Int)), (71, .bool (!(eqI v40.2 0)))] [[.int .i64 v12.2.1.Line, .int .i64 v12.2.1.Column], [.sl (v14.map cS)], [.int .i64 x34.Kind, .str x34.Text, .int .i64 x34.At.Line, .int .i64 x34.At.Column]] ?_ ?_
              · refine st ?_
                simp
              rcases sp l28 with ⟨g42, l28⟩ | ⟨g42, l28⟩
              · have g43 := notT g42
                have c44 := eqF g43
                refine condT rfl g42 ?_
                refine cut 142 0 [(2, .bool false)] [[.int .i64 v12.2.1.Line, .int .i64 v12.2.1.Column], [.sl (v14.map cS)], [.int .i64 x34.Kind, .str x34.Text, .int .i64 x34.At.Line, .int .i64 x34.At.Column]] ?_ ?_
                · refine st ?_
                  simp
                refine awp_ret ?_
                refine ret_seq ?_
                refine ret_seq ?_
                refine ret_blk ?_
                refine ret_seq ?_
                replace h := retL l28 h
                refine ret_seq ?_
                refine ret_blk ?_
                refine ret_seq ?_
                obtain rfl := Option.some.inj h
                simp
              · have g45 := notF g42
                have c46 := eqT g45
                refine condF rfl g42 ?_
                refine awp_skip ?_
                refine seq_eq ?_
                refine last 142 0 [(3, .sl (v12.1.map Api.Token.c)), (7, .fn (.func 7) [] [.mptr 1 0]), (10, .int .i64 ((i25 : Nat) : Int)), (11, .mptr 2 0), (12, .str v36.1), (13, .bool v36.2), (14, .str v40.1), (45, .sl (v12.1.map Api.Token.c)), (46, .int .i64 (v12.1.length : Int)), (47, .int .i64 ((i25 : Nat) : Int))] [[.int .i64 v12.2.1.Line, .int .i64 v12.2.1.Column], [.sl (v14.map cS)], [.int .i64 x34.Kind, .str x34.Text, .int .i64 x34.At.Line, .int .i64 x34.At.Column]] ?_ fun zz hs => ?_
                · refine st ?_
                  simp
                refine seq_le ?_ hs
                refine awp_seq ?_
                obtain ⟨b56, q57, l28⟩ := bs l28
                refine cut 142 0 [(3, .sl (v12.1.map Api.Token.c)), (7, .fn (.func 7) [] [.mptr 1 0]), (10, .int .i64 ((i25 : Nat) : Int)), (11, .mptr 2 0), (45, .sl (v12.1.map Api.Token.c)), (46, .int .i64 (v12.1.length : Int)), (47, .int .i64 ((i25 : Nat) : Int)), (91, .bool b56)] [[.int .i64 v12.2.1.Line, .int .i64 v12.2.1.Column], [.sl (v14.map cS)], [.int .i64 x34.Kind, .str x34.Text, .int .i64 x34.At.Line, .int .i64 x34.At.Column]] ?_ ?_
                · rcases sp q57 with ⟨g47, q57⟩ | ⟨g47, q57⟩
                  · have g48 := notT g47
                    obtain rfl := Option.some.inj q57
                    refine st ?_
                    simp [g47]
                  · have g49 := notF g47
                    obtain ⟨v50, q51, q57⟩ := bs q57
                    rcases sp q57 with ⟨g52, q57⟩ | ⟨g52, q57⟩
                    · have g53 := notT g52
                      obtain rfl := Option.some.inj q57
                      refine st ?_
                      simp [g47, g52]
                      have r82 := strings_HasPrefix_ok v36.1 v40.1 v50 q51
                      try simp [g47, g52] at r82
                      refine callPure r82 (by simp) rfl ?_
                      simp [g47, g52]
                    · have g54 := notF g52
                      have q55 : Rng .i64 ((v12.1.length : Int) - 1) := by simp only [Rng, inR]; omega
                      try simp at q55
                      obtain rfl := Option.some.inj q57
                      refine st ?_
                      simp [g47, g52, q55]
                      have r83 := strings_HasPrefix_ok v36.1 v40.1 v50 q51
                      try simp [g47, g52, q55] at r83
                      refine callPure r83 (by simp) rfl ?_
                      simp [g47, g52, q55]
                rcases sp l28 with ⟨g58, l28⟩ | ⟨g58, l28⟩
                · refine condT rfl g58 ?_
                  refine cut 142 0 [(2, .bool false)] [[.int .i64 v12.2.1.Line, .int .i64 v12.2.1.Column], [.sl (v14.map cS)], [.int .i64 x34.Kind, .str x34.Text, .int .i64 x34.At.Line, .int .i64 x34.At.Column]] ?_ ?_
                  · refine st ?_
                    simp
                  refine awp_ret ?_
                  refine ret_seq ?_
                  refine ret_blk ?_
                  refine ret_seq ?_
                  replace h := retL l28 h
                  refine ret_seq ?_
                  refine ret_blk ?_
                  refine ret_seq ?_
                  obtain rfl := Option.some.inj h
                  simp
                · refine condF rfl g58 ?_
                  refine awp_skip ?_
                  refine seq_eq ?_
                  obtain ⟨b78, q79, l28⟩ := bs l28
                  refine cut 142 0 [(3, .sl (v12.1.map Api.Token.c)), (7, .fn (.func 7) [] [.mptr 1 0]), (45, .sl (v12.1.map Api.Token.c)), (46, .int .i64 (v12.1.length : Int)), (47, .int .i64 ((i25 : Nat) : Int)), (137, .bool b78)] [[.int .i64 v12.2.1.Line, .int .i64 v12.2.1.Column], [.sl (v14.map cS)], [.int .i64 x34.Kind, .str x34.Text, .int .i64 x34.At.Line, .int .i64 x34.At.Column]] ?_ ?_
                  · rcases sp q79 with ⟨g59, q79⟩ | ⟨g59, q79⟩
                    · have c60 := ltT g59
                      have q61 : Rng .i64 (((i25 : Nat) : Int) - 1) := by simp only [Rng, inR]; omega
                      try simp at q61
                      obtain ⟨x62, q63, q79⟩ := bs q79
                      obtain ⟨q64, q65⟩ := idx_ok q63
                      try simp at q64
                      try simp at q65
                      rcases sp q79 with ⟨g66, q79⟩ | ⟨g66, q79⟩
                      · have c67 := ltT g66
                        obtain rfl := Option.some.inj q79
                        refine awp_region_draw [] mixed (n := 142) rfl (by decide) ?_
                        simp [g59, q61, q64, q65, g66]
                      · have c68 := ltF g66
                        have q69 : Rng .i64 (((i25 : Nat) : Int) - 1) := by simp only [Rng, inR]; omega
                        try simp at q69
                        rcases sp q79 with ⟨g70, q79⟩ | ⟨g70, q79⟩
                        · have c71 := eqT g70
                          have q72 : Rng .i64 (((i25 : Nat) : Int) - 1) := by simp only [Rng, inR]; omega
                          try simp at q72
                          rcases sp q79 with ⟨g73, q79⟩ | ⟨g73, q79⟩
                          · have c74 := leT g73
                            obtain rfl := Option.some.inj q79
                            refine awp_region_draw [] mixed (n := 142) rfl (by decide) ?_
                            simp [g59, q61, q64, q65, g66, q69, g70, q72, g73]
                          · have c75 := leF g73
                            obtain rfl := Option.some.inj q79
                            refine awp_region_draw [] mixed (n := 142) rfl (by decide) ?_
                            simp [g59, q61, q64, q65, g66, q69, g70, q72, g73]
                        · have c76 := eqF g70
                          obtain rfl := Option.some.inj q79
                          refine awp_region_draw [] mixed (n := 142) rfl (by decide) ?_
                          simp [g59, q61, q64, q65, g66, q69, g70]
                    · have c77 := ltF g59
                      obtain rfl := Option.some.inj q79
                      refine awp_region_draw [] mixed (n := 142) rfl (by decide) ?_
                      simp [g59]
                  rcases sp l28 with ⟨g80, l28⟩ | ⟨g80, l28⟩
                  · refine condT rfl g80 ?_
                    refine cut 142 0 [(2, .bool false)] [[.int .i64 v12.2.1.Line, .int .i64 v12.2.1.Column], [.sl (v14.map cS)], [.int .i64 x34.Kind, .str x34.Text, .int .i64 x34.At.Line, .int .i64 x34.At.Column]] ?_ ?_
                    · refine st ?_
                      simp
                    refine awp_ret ?_
                    refine ret_blk ?_
                    refine ret_seq ?_
                    replace h := retL l28 h
                    refine ret_seq ?_
                    refine ret_blk ?_
                    refine ret_seq ?_
                    obtain rfl := Option.some.inj h
                    simp
                  · refine condF rfl g80 ?_
                    refine awp_skip ?_
                    refine blk_n ?_
                    refine seq_eq ?_
                    have q81 : Rng .i64 (((i25 : Nat) : Int) + 1) := by simp only [Rng, inR]; omega
                    try simp at q81
                    refine last 142 0 [(3, .sl (v12.1.map Api.Token.c)), (7, .fn (.func 7) [] [.mptr 1 0]), (45, .sl (v12.1.map Api.Token.c)), (46, .int .i64 (v12.1.length : Int)), (47, .int .i64 ((i25 + 1 : Nat) : Int))] [[.int .i64 v12.2.1.Line, .int .i64 v12.2.1.Column], [.sl (v14.map cS)]] ?_ fun zz hs => ?_
                    · refine st ?_
                      simp [q81]
                    exact ⟨(k30, i25 + 1), hs, l28, by simp⟩
            · have c85 := eqF g38
              refine condF rfl g38 ?_
              refine awp_skip ?_
              refine seq_eq ?_
              refine awp_seq ?_
              obtain ⟨b95, q96, l28⟩ := bs l28
              refine cut 142 0 [(3, .sl (v12.1.map Api.Token.c)), (7, .fn (.func 7) [] [.mptr 1 0]), (10, .int .i64 ((i25 : Nat) : Int)), (11, .mptr 2 0), (45, .sl (v12.1.map Api.Token.c)), (46, .int .i64 (v12.1.length : Int)), (47, .int .i64 ((i25 : Nat) : Int)), (91, .bool b95)] [[.int .i64 v12.2.1.Line, .int .i64 v12.2.1.Column], [.sl (v14.map cS)], [.int .i64 x34.Kind, .str x34.Text, .int .i64 x34.At.Line, .int .i64 x34.At.Column]] ?_ ?_
              · rcases sp q96 with ⟨g86, q96⟩ | ⟨g86, q96⟩
                · have g87 := notT g86
                  obtain rfl := Option.some.inj q96
                  refine st ?_
                  simp [g86]
                · have g88 := notF g86
                  obtain ⟨v89, q90, q96⟩ := bs q96
                  rcases sp q96 with ⟨g91, q96⟩ | ⟨g91, q96⟩
                  · have g92 := notT g91
                    obtain rfl := Option.some.inj q96
                    refine st ?_
                    simp [g86, g91]
                    have r121 := strings_HasPrefix_ok v36.1 x34.Text v89 q90
                    try simp [g86, g91] at r121
                    refine callPure r121 (by simp) rfl ?_
                    simp [g86, g91]
                  · have g93 := notF g91
                    have q94 : Rng .i64 ((v12.1.length : Int) - 1) := by simp only [Rng, inR]; omega
                    try simp at q94
                    obtain rfl := Option.some.inj q96
                    refine st ?_
                    simp [g86, g91, q94]
                    have r122 := strings_HasPrefix_ok v36.1 x34.Text v89 q90
                    try simp [g86, g91, q94] at r122
                    refine callPure r122 (by simp) rfl ?_
                    simp [g86, g91, q94]
              rcases sp l28 with ⟨g97, l28⟩ | ⟨g97, l28⟩
              · refine condT rfl g97 ?_
                refine cut 142 0 [(2, .bool false)] [[.int .i64 v12.2.1.Line, .int .i64 v12.2.1.Column], [.sl (v14.map cS)], [.int .i64 x34.Kind, .str x34.Text, .int .i64 x34.At.Line, .int .i64 x34.At.Column]] ?_ ?_
                · refine st ?_
                  simp
                refine awp_ret ?_
                refine ret_seq ?_
                refine ret_blk ?_
                refine ret_seq ?_
                replace h := retL l28 h
                refine ret_seq ?_
                refine ret_blk ?_
                refine ret_seq ?_
                obtain rfl := Option.some.inj h
                simp
              · refine condF rfl g97 ?_
                refine awp_skip ?_
                refine seq_eq ?_
                obtain ⟨b117, q118, l28⟩ := bs l28
                refine cut 142 0 [(3, .sl (v12.1.map Api.Token.c)), (7, .fn (.func 7) [] [.mptr 1 0]), (45, .sl (v12.1.map Api.Token.c)), (46, .int .i64 (v12.1.length : Int)), (47, .int .i64 ((i25 : Nat) : Int)), (137, .bool b117)] [[.int .i64 v12.2.1.Line, .int .i64 v12.2.1.Column], [.sl (v14.map cS)], [.int .i64 x34.Kind, .str x34.Text, .int .i64 x34.At.Line, .int .i64 x34.At.Column]] ?_ ?_
                · rcases sp q118 with ⟨g98, q118⟩ | ⟨g98, q118⟩
                  · have c99 := ltT g98
                    have q100 : Rng .i64 (((i25 : Nat) : Int) - 1) := by simp only [Rng, inR]; omega
                    try simp at q100
                    obtain ⟨x101, q102, q118⟩ := bs q118
                    obtain ⟨q103, q104⟩ := idx_ok q102
                    try simp at q103
                    try simp at q104
                    rcases sp q118 with ⟨g105, q118⟩ | ⟨g105, q118⟩
                    · have c106 := ltT g105
                      obtain rfl := Option.some.inj q118
                      refine awp_region_draw [] mixed (n := 142) rfl (by decide) ?_
                      simp [g98, q100, q103, q104, g105]
                    · have c107 := ltF g105
                      have q108 : Rng .i64 (((i25 : Nat) : Int) - 1) := by simp only [Rng, inR]; omega
                      try simp at q108
                      rcases sp q118 with ⟨g109, q118⟩ | ⟨g109, q118⟩
                      · have c110 := eqT g109
                        have q111 : Rng .i64 (((i25 : Nat) : Int) - 1) := by simp only [Rng, inR]; omega
                        try simp at q111
                        rcases sp q118 with ⟨g112, q118⟩ | ⟨g112, q118⟩
                        · have c113 := leT g112
                          obtain rfl := Option.some.inj q118
                          refine awp_region_draw [] mixed (n := 142) rfl (by decide) ?_
                          simp [g98, q100, q103, q104, g105, q108, g109, q111, g112]
                        · have c114 := leF g112
                          obtain rfl := Option.some.inj q118
                          refine awp_region_draw [] mixed (n := 142) rfl (by decide) ?_
                          simp [g98, q100, q103, q104, g105, q108, g109, q111, g112]
                      · have c115 := eqF g109
                        obtain rfl := Option.some.inj q118
                        refine awp_region_draw [] mixed (n := 142) rfl (by decide) ?_
                        simp [g98, q100, q103, q104, g105, q108, g109]
                  · have c116 := ltF g98
                    obtain rfl := Option.some.inj q118
                    refine awp_region_draw [] mixed (n := 142) rfl (by decide) ?_
                    simp [g98]
                rcases sp l28 with ⟨g119, l28⟩ | ⟨g119, l28⟩
                · refine condT rfl g119 ?_
                  refine cut 142 0 [(2, .bool false)] [[.int .i64 v12.2.1.Line, .int .i64 v12.2.1.Column], [.sl (v14.map cS)], [.int .i64 x34.Kind, .str x34.Text, .int .i64 x34.At.Line, .int .i64 x34.At.Column]] ?_ ?_
                  · refine st ?_
                    simp
                  refine awp_ret ?_
                  refine ret_blk ?_
                  refine ret_seq ?_
                  replace h := retL l28 h
                  refine ret_seq ?_
                  refine ret_blk ?_
                  refine ret_seq ?_
                  obtain rfl := Option.some.inj h
                  simp
                · refine condF rfl g119 ?_
                  refine awp_skip ?_
                  refine blk_n ?_
                  refine seq_eq ?_
                  have q120 : Rng .i64 (((i25 : Nat) : Int) + 1) := by simp only [Rng, inR]; omega
                  try simp at q120
                  refine last 142 0 [(3, .sl (v12.1.map Api.Token.c)), (7, .fn (.func 7) [] [.mptr 1 0]), (45, .sl (v12.1.map Api.Token.c)), (46, .int .i64 (v12.1.length : Int)), (47, .int .i64 ((i25 + 1 : Nat) : Int))] [[.int .i64 v12.2.1.Line, .int .i64 v12.2.1.Column], [.sl (v14.map cS)]] ?_ fun zz hs => ?_
                  · refine st ?_
                    simp [q120]
                  exact ⟨(k30, i25 + 1), hs, l28, by simp⟩
          · have c124 := ltF g31
            refine condF rfl g31 ?_
            refine factL 3 rfl fun f125 => ?_
            rw [List.length_map] at f125
            refine awp_exit ?_
            refine exit_seq ?_
            rcases o27 with o27 | o26
            · cases l28
            have q126 := Sum.inr.inj (Option.some.inj l28)
            replace h := elimR h
            refine exit_seq ?_
            refine exit_blk ?_
            refine seq_le (t := mkS 142 0 [(3, .sl (v12.1.map Api.Token.c))] [[.int .i64 v12.2.1.Line, .int .i64 v12.2.1.Column], [.sl (v14.map cS)]]) ?_ (le_mkS (by simp []))
            refine cut 142 0 [(2, .bool (ltI 0 (v12.1.length : Int)))] [[.int .i64 v12.2.1.Line, .int .i64 v12.2.1.Column], [.sl (v14.map cS)]] ?_ ?_
            · refine st ?_
              simp
            refine awp_ret ?_
            obtain rfl := Option.some.inj h
            simp
end Go.Proofs.YthbjlmoaceaeeaaDoor
set_option linter.unusedVariables false
set_option linter.unusedSimpArgs false
namespace Go.Proofs.YthbjlmoaceaeeaaDoor
open Go Go.Abs
theorem obind {α β : Type} (a : α) (f : α → Option β) : (some a).bind f = f a := Eq.trans (Option.bind_some a f) rfl
theorem chk64 {n : Int} (h1 : -9223372036854775808 ≤ n) (h2 : n ≤ 9223372036854775807) : chk .i64 n = some n := by rw [chk, if_pos]; exact ⟨h1, h2⟩
theorem app_some {α : Type} {b : Nat} {x y : List α} (h : 0 < b) (h2 : (x.length + y.length) * b ≤ 140737488355328) : app b x y = some (x ++ y) := by rw [app, if_pos ⟨h, h2⟩]
theorem app1 {x y : List UInt8} (h : x.length + y.length ≤ 140737488355328) : app 1 x y = some (x ++ y) := app_some (by decide) (by omega)
theorem wb_M {c : UInt8} {b : List UInt8} (h : b.length + 1 ≤ 140737488355328) : M.strings_Builder_WriteByte c b = some (b ++ [c]) := by
  simp only [M.strings_Builder_WriteByte, M.strings_Builder_copyCheck, obind, app1 (x := b) (y := [c]) h]
theorem ws_M {s b : List UInt8} (h : b.length + s.length ≤ 140737488355328) : M.strings_Builder_WriteString s b = some ((s.length : Int), b ++ s) := by
  simp only [M.strings_Builder_WriteString, M.strings_Builder_copyCheck, obind, app1 (x := b) (y := s) h]
def okc (c : UInt8) : Bool := c == 10 || (decide (32 ≤ c.toNat) && decide (c.toNat ≤ 126))
def esc (c : UInt8) : List UInt8 := if c = 10 then [92, 110] else if c = 34 ∨ c = 92 then [92, c] else [c]
def qs (s : List UInt8) : List UInt8 := s.flatMap esc
theorem eq8 (c : UInt8) (n : Nat) (d : UInt8) (hd : d.toNat = n) : eqI (c.toNat : Int) (n : Int) = decide (c = d) := by
  unfold eqI
  rw [decide_eq_decide]
  constructor
  · intro h; apply UInt8.toNat_inj.1; omega
  · rintro rfl; omega
theorem e10 (c : UInt8) : eqI (c.toNat : Int) 10 = decide (c = 10) := eq8 c 10 10 rfl
theorem e34 (c : UInt8) : eqI (c.toNat : Int) 34 = decide (c = 34) := eq8 c 34 34 rfl
theorem e92 (c : UInt8) : eqI (c.toNat : Int) 92 = decide (c = 92) := eq8 c 92 92 rfl
theorem e110 (c : UInt8) : eqI (c.toNat : Int) 110 = decide (c = 110) := eq8 c 110 110 rfl
theorem vis_M (c : UInt8) : M.lexer_visible c = some (decide (32 ≤ c.toNat) && decide (c.toNat ≤ 126)) := by
  unfold M.lexer_visible leI
  congr 2
  · exact decide_eq_decide.2 (by omega)
  · exact decide_eq_decide.2 (by omega)
theorem esc_len (c : UInt8) : (esc c).length ≤ 2 := by unfold esc; split <;> (try split) <;> simp
theorem qs_len (s : List UInt8) : (qs s).length ≤ 2 * s.length := by
  induction s with
  | nil => simp [qs]
  | cons c s ih =>
    have := esc_len c
    simp only [qs, List.flatMap_cons, List.length_append, List.length_cons] at ih ⊢
    omega
theorem qs_ge (s : List UInt8) : s.length ≤ (qs s).length := by
  induction s with
  | nil => simp
  | cons c s ih =>
    have : 1 ≤ (esc c).length := by unfold esc; split <;> (try split) <;> simp
    simp only [qs, List.flatMap_cons, List.length_append, List.length_cons] at ih ⊢
    omega
theorem qs_cons (c : UInt8) (s : List UInt8) : qs (c :: s) = esc c ++ qs s := by simp [qs]
theorem Quote_loop (s : List UInt8) (hs : s.length ≤ 20000) : ∀ (n i k : Nat) (b : List UInt8), i + n = s.length → n + 1 ≤ k → b.length + 2 * n ≤ 1000000 →
    M.lexer_Quote_l1 s k b i = some (if (s.drop i).all okc then .inr (b ++ qs (s.drop i)) else .inl ([], 3)) := by
  intro n
  induction n with
  | zero =>
    intro i k b hi hk hb
    obtain ⟨g, rfl⟩ : ∃ g, k = g + 1 := ⟨k - 1, by omega⟩
    rw [M.lexer_Quote_l1, if_neg (by simp [ltI]; omega), List.drop_eq_nil_of_le (by omega)]
    simp [qs]
  | succ n ih =>
    intro i k b hi hk hb
    obtain ⟨g, rfl⟩ : ∃ g, k = g + 1 := ⟨k - 1, by omega⟩
    have hx : s[i]? = some s[i] := List.getElem?_eq_getElem (by omega)
    rw [M.lexer_Quote_l1, if_pos (by simp [ltI]; omega), hx, List.drop_eq_getElem_cons (by omega), List.all_cons, qs_cons]
    generalize s[i] = c at hx
    simp only [obind, e10, e34, e92, vis_M]
    by_cases c10 : c = 10
    · subst c10
      have ho : okc 10 = true := rfl
      rw [decide_eq_true rfl, if_pos rfl, ws_M (by simp; omega)]
      simp only [obind, ho, Bool.true_and]
      rw [ih (i + 1) g _ (by omega) (by omega) (by simp; omega)]
      have he : esc 10 = [92, 110] := rfl
      rw [he, List.append_assoc]
    · rw [decide_eq_false c10, if_neg (by simp)]
      cases hv : (decide (32 ≤ c.toNat) && decide (c.toNat ≤ 126))
      · have ho : okc c = false := by unfold okc; rw [hv]; simpa using c10
        rw [ho]; rfl
      · have ho : okc c = true := by unfold okc; rw [hv]; simp
        simp only [Bool.not_true, Bool.false_eq_true, if_false, ho, Bool.true_and]
        by_cases c2 : c = 34 ∨ c = 92
        · have he : esc c = [92, c] := by unfold esc; rw [if_neg c10, if_pos c2]
          rw [if_pos (by rcases c2 with h | h <;> simp [h]), wb_M (by omega)]
          simp only [obind]
          rw [wb_M (by simp; omega)]
          simp only [obind]
          rw [ih (i + 1) g _ (by omega) (by omega) (by simp; omega), he]
          simp
        · have he : esc c = [c] := by unfold esc; rw [if_neg c10, if_neg c2]
          rw [if_neg (by simpa using c2), wb_M (by omega)]
          simp only [obind]
          rw [ih (i + 1) g _ (by omega) (by omega) (by simp; omega), he]
          simp
theorem Quote_M {s : List UInt8} {fuel : Nat} (hs : s.length ≤ 16384) (hf : s.length + 1 ≤ fuel) : M.lexer_Quote fuel s = some (if s.all okc then (34 :: (qs s ++ [34]), 0) else ([], 3)) := by
  have hl := qs_len s
  rw [M.lexer_Quote, if_neg (by simp [ltI]; omega), wb_M (by simp)]
  simp only [obind, List.nil_append]
  rw [Quote_loop s (by omega) s.length 0 fuel [34] (by simp) hf (by simp; omega), List.drop_zero]
  cases s.all okc
  · rfl
  · simp only [if_true, obind, Sum.elim_inr]
    rw [wb_M (by simp; omega)]
    simp [M.strings_Builder_String]
theorem lit_complete (s : List UInt8) : ∀ (m : List UInt8), m.all okc = true → ∀ (i k : Nat) (b r : List UInt8), s.drop i = qs m ++ 34 :: r → m.length + 1 ≤ k → b.length + m.length ≤ 1000000 →
    M.lexer_literal_l1 s k b i = some (.inl (b ++ m, ((i + (qs m).length + 1 : Nat) : Int), 0, 0)) := by
  intro m
  induction m with
  | nil =>
    intro _ i k b r hd hk hb
    obtain ⟨g, rfl⟩ : ∃ g, k = g + 1 := ⟨k - 1, by omega⟩
    obtain ⟨h1, h2, h3, h4⟩ := drop_cons (show s.drop i = 34 :: r by simpa [qs] using hd)
    rw [M.lexer_literal_l1, if_pos h1, h2]
    simp only [obind, e34, decide_true, if_true, M.strings_Builder_String]
    simp [qs]
  | cons c m ih =>
    intro ha i k b r hd hk hb
    obtain ⟨g, rfl⟩ : ∃ g, k = g + 1 := ⟨k - 1, by omega⟩
    rw [List.all_cons, Bool.and_eq_true] at ha
    rw [qs_cons] at hd ⊢
    simp only [List.length_cons] at hk hb
    have fin : ∀ (j : Nat), j = i + (esc c).length → s.drop j = qs m ++ 34 :: r → M.lexer_literal_l1 s g (b ++ [c]) j = some (.inl (b ++ c :: m, ((i + (esc c ++ qs m).length + 1 : Nat) : Int), 0, 0)) := fun j hj hd' => by
      rw [ih ha.2 j g (b ++ [c]) r hd' (by omega) (by simp; omega), hj]
      simp
      omega
    by_cases c10 : c = 10
    · subst c10
      have he : esc 10 = [92, 110] := rfl
      rw [he] at hd
      obtain ⟨h1, h2, h3, h4⟩ := drop_cons (show s.drop i = 92 :: (110 :: (qs m ++ 34 :: r)) by simpa using hd)
      obtain ⟨k1, k2, k3, k4⟩ := drop_cons h3
      rw [M.lexer_literal_l1, if_pos h1, h2]
      simp only [obind, e34, e92, e110]
      rw [if_neg (by decide), if_pos (by simp only [decide_true, Bool.true_and]; exact k1), k2]
      simp only [obind]
      rw [if_neg (by decide), if_neg (by decide), if_pos (by decide), wb_M (by omega)]
      simp only [obind]
      exact fin (i + 1 + 1) (by rw [he]; rfl) k3
    · by_cases c2 : c = 34 ∨ c = 92
      · have he : esc c = [92, c] := by unfold esc; rw [if_neg c10, if_pos c2]
        rw [he] at hd
        obtain ⟨h1, h2, h3, h4⟩ := drop_cons (show s.drop i = 92 :: (c :: (qs m ++ 34 :: r)) by simpa using hd)
        obtain ⟨k1, k2, k3, k4⟩ := drop_cons h3
        rw [M.lexer_literal_l1, if_pos h1, h2]
        simp only [obind, e34, e92, e110]
        rw [if_neg (by decide), if_pos (by simp only [decide_true, Bool.true_and]; exact k1), k2]
        simp only [obind]
        rcases c2 with c2 | c2
        · rw [if_pos (by simp [c2]), wb_M (by omega)]
          simp only [obind]
          exact fin (i + 1 + 1) (by rw [he]; rfl) k3
        · rw [if_neg (by rw [c2]; decide), if_pos (by simp [c2]), wb_M (by omega)]
          simp only [obind]
          exact fin (i + 1 + 1) (by rw [he]; rfl) k3
      · have he : esc c = [c] := by unfold esc; rw [if_neg c10, if_neg c2]
        rw [he] at hd
        obtain ⟨h1, h2, h3, h4⟩ := drop_cons (show s.drop i = c :: (qs m ++ 34 :: r) by simpa using hd)
        have hv : (decide (32 ≤ c.toNat) && decide (c.toNat ≤ 126)) = true := by
          have := ha.1
          unfold okc at this
          simpa [c10] using this
        have n34 : ¬ c = 34 := fun h => c2 (.inl h)
        have n92 : ¬ c = 92 := fun h => c2 (.inr h)
        rw [M.lexer_literal_l1, if_pos h1, h2]
        simp only [obind, e34, e92, e110]
        rw [if_neg (by simpa using n34), if_neg (by simp [n92]), if_neg (by simpa using n92), vis_M]
        simp only [obind, hv, Bool.not_true, Bool.false_eq_true, if_false]
        rw [wb_M (by omega)]
        simp only [obind]
        exact fin (i + 1) (by rw [he]; rfl) h3
theorem lit_sound (s : List UInt8) (hs : s.length ≤ 100000) : ∀ (n i k : Nat) (b : List UInt8), s.length - i ≤ n → n + 1 ≤ k → b.length + n ≤ 1000000 →
    ∃ o, M.lexer_literal_l1 s k b i = some o ∧ ∀ t N p e, o = .inl (t, N, p, e) → e = 0 → ∃ m r, t = b ++ m ∧ m.all okc = true ∧ s.drop i = qs m ++ 34 :: r ∧ N = ((i + (qs m).length + 1 : Nat) : Int) := by
  intro n
  induction n with
  | zero =>
    intro i k b hi hk hb
    obtain ⟨g, rfl⟩ : ∃ g, k = g + 1 := ⟨k - 1, by omega⟩
    rw [M.lexer_literal_l1, if_neg (by simp [ltI]; omega)]
    exact ⟨_, rfl, fun t N p e h => by cases h⟩
  | succ n ih =>
    intro i k b hi hk hb
    obtain ⟨g, rfl⟩ : ∃ g, k = g + 1 := ⟨k - 1, by omega⟩
    by_cases hlt : i < s.length
    case neg =>
      rw [M.lexer_literal_l1, if_neg (by simp [ltI]; omega)]
      exact ⟨_, rfl, fun t N p e h => by cases h⟩
    have hx : s[i]? = some s[i] := List.getElem?_eq_getElem hlt
    have hd : s.drop i = s[i] :: s.drop (i + 1) := List.drop_eq_getElem_cons hlt
    generalize s[i] = c at hx hd
    rw [M.lexer_literal_l1, if_pos (by simp [ltI]; omega), hx]
    simp only [obind, e34, e92, e110]
    have step : ∀ (j : Nat) (x : UInt8), i < j → okc x = true → s.drop i = esc x ++ s.drop j → j = i + (esc x).length → ∃ o, M.lexer_literal_l1 s g (b ++ [x]) j = some o ∧
        ∀ t N p e, o = .inl (t, N, p, e) → e = 0 → ∃ m r, t = b ++ m ∧ m.all okc = true ∧ s.drop i = qs m ++ 34 :: r ∧ N = ((i + (qs m).length + 1 : Nat) : Int) := fun j x hj hx' hdx hjl => by
      obtain ⟨o, o1, o2⟩ := ih j g (b ++ [x]) (by omega) (by omega) (by simp; omega)
      refine ⟨o, o1, fun t N p e ho he => ?_⟩
      obtain ⟨m, r, m1, m2, m3, m4⟩ := o2 t N p e ho he
      refine ⟨x :: m, r, by rw [m1]; simp, by rw [List.all_cons, hx', m2]; rfl, by rw [hdx, m3, qs_cons]; simp, ?_⟩
      rw [m4, qs_cons, hjl]
      simp
      omega
    by_cases c34 : c = 34
    · subst c34
      simp only [decide_true, if_true, M.strings_Builder_String, obind]
      refine ⟨_, rfl, fun t N p e h he => ?_⟩
      simp only [Sum.inl.injEq, Prod.mk.injEq] at h
      obtain ⟨rfl, rfl, _, _⟩ := h
      exact ⟨[], s.drop (i + 1), by simp, rfl, by simpa [qs] using hd, by simp [qs]⟩
    rw [if_neg (by simpa using c34)]
    by_cases c92 : c = 92
    · subst c92
      by_cases hlt2 : i + 1 < s.length
      · have hx2 : s[i + 1]? = some s[i + 1] := List.getElem?_eq_getElem hlt2
        have hd2 : s.drop (i + 1) = s[i + 1] :: s.drop (i + 1 + 1) := List.drop_eq_getElem_cons hlt2
        generalize s[i + 1] = d at hx2 hd2
        rw [if_pos (by simp [ltI]; omega), hx2]
        simp only [obind]
        rw [hd2] at hd
        by_cases d34 : d = 34
        · subst d34
          rw [if_pos (by decide), wb_M (by omega)]
          exact step (i + 1 + 1) 34 (by omega) rfl hd rfl
        rw [if_neg (by simpa using d34)]
        by_cases d92 : d = 92
        · subst d92
          rw [if_pos (by decide), wb_M (by omega)]
          exact step (i + 1 + 1) 92 (by omega) rfl hd rfl
        rw [if_neg (by simpa using d92)]
        by_cases d110 : d = 110
        · subst d110
          rw [if_pos (by decide), wb_M (by omega)]
          exact step (i + 1 + 1) 10 (by omega) rfl hd rfl
        rw [if_neg (by simpa using d110)]
        refine ⟨_, rfl, fun t N p e h he => ?_⟩
        simp only [Sum.inl.injEq, Prod.mk.injEq] at h
        omega
      · rw [if_neg (by simp [ltI]; omega), if_pos (by decide)]
        refine ⟨_, rfl, fun t N p e h he => ?_⟩
        simp only [Sum.inl.injEq, Prod.mk.injEq] at h
        omega
    · rw [if_neg (by simp [c92]), if_neg (by simpa using c92), vis_M]
      simp only [obind]
      cases hv : (decide (32 ≤ c.toNat) && decide (c.toNat ≤ 126))
      · refine ⟨_, rfl, fun t N p e h he => ?_⟩
        simp only [Sum.inl.injEq, Prod.mk.injEq] at h
        omega
      · simp only [Bool.not_true, Bool.false_eq_true, if_false]
        rw [wb_M (by omega)]
        have c10 : ¬ c = 10 := fun h => by subst h; revert hv; decide
        have he : esc c = [c] := by unfold esc; rw [if_neg c10, if_neg (by simp [c34, c92])]
        exact step (i + 1) c (by omega) (by unfold okc; rw [hv]; simp) (by rw [he]; exact hd) (by rw [he]; rfl)
end Go.Proofs.YthbjlmoaceaeeaaDoor
set_option linter.unusedVariables false
set_option linter.unusedSimpArgs false
namespace Go.Proofs.YthbjlmoaceaeeaaDoor
open Go Go.Abs
theorem awake_M {fuel : Nat} (h : 100 ≤ fuel) : M.law02_awake fuel = some true := by
  obtain ⟨g, rfl⟩ : ∃ g, fuel = g + 100 := ⟨fuel - 100, by omega⟩
  kernel_rfl
theorem literal_total (s : List UInt8) {fuel : Nat} (hs : s.length ≤ 100000) (hf : s.length + 1 ≤ fuel) : ∃ r, M.lexer_literal fuel s = some r ∧
    (r.2.2.2 = 0 → ∃ m rest, r.1 = m ∧ m.all okc = true ∧ s.drop 1 = qs m ++ 34 :: rest ∧ r.2.1 = ((1 + (qs m).length + 1 : Nat) : Int)) := by
  obtain ⟨o, o1, o2⟩ := lit_sound s hs s.length 1 fuel [] (by omega) hf (by simp; omega)
  rw [M.lexer_literal, o1]
  simp only [obind]
  cases o with
  | inl x =>
    obtain ⟨t, N, p, e⟩ := x
    refine ⟨_, rfl, fun he => ?_⟩
    obtain ⟨m, r, m1, m2, m3, m4⟩ := o2 t N p e rfl he
    exact ⟨m, r, by simpa using m1, m2, m3, m4⟩
  | inr x => exact ⟨_, rfl, fun he => by simp at he⟩
theorem literal_q (m : List UInt8) {fuel : Nat} (hm : m.all okc = true) (hl : m.length ≤ 100000) (hf : m.length + 1 ≤ fuel) : M.lexer_literal fuel (34 :: (qs m ++ [34])) = some (m, ((qs m).length : Int) + 2, 0, 0) := by
  have := lit_complete (34 :: (qs m ++ [34])) m hm 1 fuel [] [] (by simp) hf (by simp; omega)
  rw [M.lexer_literal, this]
  simp only [obind, Sum.elim_inl, List.nil_append]
  congr 3
  omega
theorem Unq_q (m : List UInt8) {fuel : Nat} (hm : m.all okc = true) (hl : m.length ≤ 16384) (hf : m.length + 1 ≤ fuel) : M.lexer_Unquote fuel (34 :: (qs m ++ [34])) = some (m, 0) := by
  have hq := qs_len m
  rw [M.lexer_Unquote, if_neg (by simp [ltI]; omega)]
  have h1 : eqS (34 :: (qs m ++ [34])) [] = false := decide_eq_false (by simp)
  rw [h1]
  simp only [Bool.false_eq_true, if_false, List.getElem?_cons_zero, obind, e34, decide_true, Bool.not_true]
  rw [literal_q m hm (by omega) hf]
  have e0 : eqI 0 0 = true := rfl
  have e1 : eqI ((qs m).length + 2 : Int) ((34 :: (qs m ++ [34]) : List UInt8).length : Int) = true := decide_eq_true (by simp; omega)
  have e2 : ltI 16384 (m.length : Int) = false := decide_eq_false (by omega)
  simp only [obind, e0, e1, e2, Bool.not_true, Bool.or_self, Bool.false_eq_true, if_false]
theorem Unq_total (s : List UInt8) {fuel : Nat} (hs : s.length ≤ 1500) (hf : s.length + 1 ≤ fuel) : ∃ u, M.lexer_Unquote fuel s = some u ∧ (u = ([], 3) ∨ ∃ m, u = (m, 0) ∧ m.all okc = true ∧ s = 34 :: (qs m ++ [34])) := by
  rw [M.lexer_Unquote, if_neg (by simp [ltI]; omega)]
  match s, hs, hf with
  | [], _, _ => exact ⟨_, rfl, .inl rfl⟩
  | c :: s, hs, hf =>
    have h1 : eqS (c :: s) [] = false := decide_eq_false (by simp)
    rw [h1]
    simp only [Bool.false_eq_true, if_false, List.getElem?_cons_zero, obind, e34]
    by_cases c34 : c = 34
    · subst c34
      simp only [decide_true, Bool.not_true, Bool.false_eq_true, if_false]
      obtain ⟨r, r1, r2⟩ := literal_total (34 :: s) (fuel := fuel) (by omega) hf
      rw [r1]
      simp only [obind]
      by_cases d0 : r.2.2.2 = 0
      · obtain ⟨m, rest, m1, m2, m3, m4⟩ := r2 d0
        have e0 : eqI r.2.2.2 0 = true := decide_eq_true d0
        by_cases d1 : r.2.1 = ((34 :: s : List UInt8).length : Int)
        · have e1 : eqI r.2.1 ((34 :: s : List UInt8).length : Int) = true := decide_eq_true d1
          have m3' : s = qs m ++ 34 :: rest := by simpa using m3
          have hl := congrArg List.length m3'
          rw [m4] at d1
          simp at hl d1
          have hrest : rest = [] := List.length_eq_zero_iff.1 (by omega)
          subst hrest
          have hge := qs_ge m
          simp only [List.length_cons] at hs
          have e2 : ltI 16384 (r.1.length : Int) = false := decide_eq_false (by rw [m1]; omega)
          rw [e0, e1, e2]
          refine ⟨_, rfl, .inr ⟨m, by rw [m1], m2, by rw [m3']⟩⟩
        · have e1 : eqI r.2.1 ((34 :: s : List UInt8).length : Int) = false := decide_eq_false d1
          rw [e0, e1]
          exact ⟨_, rfl, .inl rfl⟩
      · have e0 : eqI r.2.2.2 0 = false := decide_eq_false d0
        rw [e0]
        exact ⟨_, rfl, .inl rfl⟩
    · rw [decide_eq_false c34]
      exact ⟨_, rfl, .inl rfl⟩
theorem last_loop (s : List UInt8) (c : UInt8) (hs : s.length ≤ 100000) : ∀ (i k : Nat) (I : Int), I = (i : Int) - 1 → i ≤ s.length → i + 1 ≤ k → ∃ o, M.bytealg_LastIndexByteString_l1 s c k I = some o ∧ ∀ z, o = .inl z → 0 ≤ z ∧ z ≤ s.length := by
  intro i
  induction i with
  | zero =>
    intro k I hI hi hk
    obtain ⟨g, rfl⟩ : ∃ g, k = g + 1 := ⟨k - 1, by omega⟩
    rw [M.bytealg_LastIndexByteString_l1, if_neg (by simp [leI]; omega)]
    exact ⟨_, rfl, fun z h => by cases h⟩
  | succ i ih =>
    intro k I hI hi hk
    obtain ⟨g, rfl⟩ : ∃ g, k = g + 1 := ⟨k - 1, by omega⟩
    have hI' : I = (i : Int) := by omega
    have hx : s[i]? = some s[i] := List.getElem?_eq_getElem (by omega)
    rw [M.bytealg_LastIndexByteString_l1, if_pos (by simp [leI]; omega), hI', idx, if_pos (by omega)]
    simp only [Int.toNat_natCast, hx, obind]
    cases eqI ((s[i]).toNat : Int) (c.toNat : Int)
    · simp only [Bool.false_eq_true, if_false]
      exact ih g _ rfl (by omega) (by omega)
    · exact ⟨_, rfl, fun z h => by simp at h; omega⟩
theorem place_total (s : List UInt8) (at_ : Nat) {fuel : Nat} (hs : s.length ≤ 100000) (ha : at_ ≤ s.length) (hf : s.length + 2 ≤ fuel) : ∃ p, M.lexer_place fuel s (at_ : Int) = some p := by
  rw [M.lexer_place, subC, if_pos ⟨by omega, by omega, by omega⟩]
  simp only [obind]
  have hsub : sub s 0 (at_ : Int) = s.take at_ := by simp [sub]
  rw [hsub]
  have hl : (s.take at_).length ≤ at_ := by simp; omega
  have hc : Lib.countByte (s.take at_) 10 ≤ (s.take at_).length := List.count_le_length
  rw [M.strings_Count]
  simp only [obind]
  rw [chk64 (by omega) (by omega)]
  simp only [obind]
  rw [M.strings_LastIndexByte, M.bytealg_LastIndexByteString, chk64 (by omega) (by omega)]
  simp only [obind]
  obtain ⟨o, o1, o2⟩ := last_loop (s.take at_) 10 (by omega) (s.take at_).length fuel _ rfl (by omega) (by omega)
  rw [o1]
  cases o with
  | inl z =>
    obtain ⟨z1, z2⟩ := o2 z rfl
    simp only [obind, Sum.elim_inl]
    rw [chk64 (by omega) (by omega)]
    exact ⟨_, rfl⟩
  | inr u =>
    simp only [obind, Sum.elim_inr]
    rw [chk64 (by omega) (by omega)]
    exact ⟨_, rfl⟩
theorem skip_end (s : List UInt8) (n : Int) {fuel : Nat} (hf : 1 ≤ fuel) (hn : n = s.length) : M.lexer_scanner_skip fuel (Lexer.scanner.mk s n) = some (-1, Lexer.scanner.mk s n) := by
  obtain ⟨g, rfl⟩ : ∃ g, fuel = g + 1 := ⟨fuel - 1, by omega⟩
  rw [M.lexer_scanner_skip, M.lexer_scanner_skip_l1, if_neg (by simp [ltI]; omega)]
  rfl
theorem sub_all (s : List UInt8) : sub s 0 (s.length : Int) = s := by simp [sub]
theorem skip_quote (t : List UInt8) {fuel : Nat} (hf : 1 ≤ fuel) : M.lexer_scanner_skip fuel (Lexer.scanner.mk (34 :: t) 0) = some (-1, Lexer.scanner.mk (34 :: t) 0) := by
  obtain ⟨g, rfl⟩ : ∃ g, fuel = g + 1 := ⟨fuel - 1, by omega⟩
  rw [M.lexer_scanner_skip, M.lexer_scanner_skip_l1, if_pos (by simp [ltI]), subC, if_pos ⟨by simp, by simp, by simp⟩]
  simp only [obind]
  rw [sub_all]
  simp only [List.getElem?_cons_zero, obind]
  have h1 : M.strings_IndexByte [32, 9, 10] 34 = some (-1) := by rfl
  rw [h1]
  have h2 : leI 0 (-1) = false := rfl
  simp only [obind, h2, Bool.false_eq_true, if_false]
  have h3 : M.strings_HasPrefix (34 :: t) [40, 42] = some false := by
    rw [M.strings_HasPrefix, M.stringslite_HasPrefix]
    by_cases hl : leI (([40, 42] : List UInt8).length : Int) ((34 :: t : List UInt8).length : Int) = true
    · rw [if_pos hl]
      have hl' := leT hl
      rw [subC, if_pos ⟨by omega, by simp, hl'⟩]
      simp only [obind]
      have : eqS (sub (34 :: t) 0 (([40, 42] : List UInt8).length : Int)) [40, 42] = false := decide_eq_false (by simp [sub])
      rw [this]
    · rw [if_neg hl]; rfl
  rw [h3]
  rfl
theorem Tokens_q (m : List UInt8) {fuel : Nat} (hm : m.all okc = true) (hl : m.length ≤ 1500) (hf : 4000 ≤ fuel) : ∃ p q, M.lexer_Tokens fuel (34 :: (qs m ++ [34])) = some ([Api.Token.mk 5 m p, Api.Token.mk 8 [] q], Api.Pos.mk 0 0, 0) := by
  have hq := qs_len m
  generalize hS : (34 :: (qs m ++ [34]) : List UInt8) = S
  have hlen : S.length = (qs m).length + 2 := by rw [← hS]; simp
  obtain ⟨g, rfl⟩ : ∃ g, fuel = g + 2 := ⟨fuel - 2, by omega⟩
  obtain ⟨p, hp⟩ := place_total S 0 (fuel := g + 2) (by omega) (by omega) (by omega)
  obtain ⟨q, hq2⟩ := place_total S S.length (fuel := g + 2) (by omega) (by omega) (by omega)
  have sk1 : M.lexer_scanner_skip (g + 2) (Lexer.scanner.mk S 0) = some (-1, Lexer.scanner.mk S 0) := by rw [← hS]; exact skip_quote _ (by omega)
  have sk2 := skip_end S ((qs m).length + 2 : Int) (fuel := g + 2) (by omega) (by rw [hlen]; omega)
  have hm1 : leI 0 (-1) = false := rfl
  have lit : M.lexer_literal (g + 2) S = some (m, ((qs m).length : Int) + 2, 0, 0) := by rw [← hS]; exact literal_q m hm (by omega) (by omega)
  have tok : M.lexer_scanner_token (g + 2) (Lexer.scanner.mk S 0) = some (Api.Token.mk 5 m (Api.Pos.mk 0 0), 0, 0, Lexer.scanner.mk S ((qs m).length + 2)) := by
    rw [M.lexer_scanner_token, subC, if_pos ⟨by simp, by simp, by simp⟩]
    simp only [obind]
    rw [sub_all]
    have h0 : S[0]? = some 34 := by rw [← hS]; rfl
    rw [h0]
    have a1 : M.lexer_small 34 = some false := rfl
    have a2 : M.lexer_capital 34 = some false := rfl
    have a3 : M.lexer_digit 34 = some false := rfl
    have a4 : eqI ((34 : UInt8).toNat : Int) 39 = false := rfl
    have a5 : eqI ((34 : UInt8).toNat : Int) 34 = true := rfl
    simp only [obind, a1, a2, a3, a4, a5, Bool.false_eq_true, if_false, if_true]
    rw [lit]
    have a6 : eqI 0 0 = true := rfl
    simp only [obind, a6, Bool.not_true, Bool.false_eq_true, if_false]
    rw [M.lexer_scanner_token_1, chk64 (by dsimp only; omega) (by dsimp only; omega)]
    simp only [obind, Int.zero_add]
  rw [M.lexer_Tokens, if_neg (fun h => by have := ltT h; omega), M.lexer_Tokens_l1, sk1]
  simp only [obind, hm1, Bool.false_eq_true, if_false]
  rw [if_neg (show ¬ leI (S.length : Int) 0 = true from fun h => by have := leT h; omega), if_neg (show ¬ eqI (([] : List Api.Token).length : Int) 20000 = true by decide)]
  rw [tok]
  have a6 : eqI 0 0 = true := rfl
  simp only [obind, a6, Bool.not_true, Bool.false_eq_true, if_false]
  have hp' : M.lexer_place (g + 2) S 0 = some p := hp
  rw [hp']
  simp only [obind]
  rw [app_some (by decide) (by simp)]
  simp only [obind, List.nil_append]
  rw [M.lexer_Tokens_l1, sk2]
  simp only [obind, hm1, Bool.false_eq_true, if_false]
  rw [if_pos (show leI (S.length : Int) ((qs m).length + 2) = true from decide_eq_true (by omega)), hq2]
  simp only [obind]
  rw [app_some (by decide) (by simp)]
  exact ⟨p, q, rfl⟩
theorem Literals_M (s : List UInt8) {fuel : Nat} (hf : 4000 ≤ fuel) : M.law02_LexerLiterals fuel s = some true := by
  rw [M.law02_LexerLiterals, awake_M (by omega)]
  simp only [obind, Bool.not_true, Bool.false_eq_true, if_false]
  by_cases hs : 1500 < s.length
  · rw [if_pos (show ltI 1500 (s.length : Int) = true from decide_eq_true (by omega))]
  rw [if_neg (show ¬ ltI 1500 (s.length : Int) = true by simp [ltI]; omega)]
  have e0 : eqI 0 0 = true := rfl
  have e3 : eqI 3 0 = false := rfl
  have e5 : eqI 5 5 = true := rfl
  have tail : ((M.lexer_Unquote fuel s).bind fun v48 => if !(eqI v48.2 0) then some (eqS v48.1 ([] : List UInt8)) else (M.lexer_Quote fuel v48.1).bind fun v55 => some ((eqI v55.2 0) && (eqS v55.1 s))) = some true := by
    obtain ⟨u, u1, u2⟩ := Unq_total s (fuel := fuel) (by omega) (by omega)
    rw [u1]
    simp only [obind]
    rcases u2 with rfl | ⟨m, rfl, m1, m2⟩
    · rfl
    · have hge := qs_ge m
      have hl := congrArg List.length m2
      simp at hl
      simp only [e0, Bool.not_true, Bool.false_eq_true, if_false]
      rw [Quote_M (by omega) (by omega), m1]
      have hself : eqS (34 :: (qs m ++ [34])) s = true := decide_eq_true m2.symm
      simp only [if_true, obind, e0, hself, Bool.and_self]
  rw [Quote_M (by omega) (by omega)]
  simp only [obind]
  cases hok : s.all okc
  · simp only [Bool.false_eq_true, if_false, e3]
    exact tail
  · simp only [if_true, e0]
    rw [Unq_q s hok (by omega) (by omega)]
    obtain ⟨p, q, ht⟩ := Tokens_q s hok (by omega) hf
    rw [ht]
    have hself : eqS s s = true := decide_eq_true rfl
    have e2 : eqI (([Api.Token.mk 5 s p, Api.Token.mk 8 [] q] : List Api.Token).length : Int) 2 = true := rfl
    simp only [obind, e0, hself, e2, e5, Bool.not_true, Bool.false_eq_true, if_false, List.getElem?_cons_zero]
    exact tail
theorem LexerLiterals_true (s : List UInt8) (_ : s.length ≤ 140737488351232) : ∃ fuel, M.law02_LexerLiterals fuel s = some true := ⟨4000, Literals_M s (by omega)⟩
end Go.Proofs.YthbjlmoaceaeeaaDoor
set_option linter.unusedVariables false
set_option linter.unusedSimpArgs false
namespace Go.Proofs.YthbjlmoaceaeeaaDoor
open Go Go.Abs
theorem idxN {α : Type} (l : List α) (i : Nat) : idx l (i : Int) = l[i]? := by rw [idx, if_pos (by omega)]; simp
theorem subD (s : List UInt8) (i : Nat) (h : i ≤ s.length) : subC s (i : Int) (s.length : Int) = some (s.drop i) := by
  rw [subC, if_pos ⟨by omega, by omega, by omega⟩]
  unfold sub
  rw [List.take_of_length_le (by simp)]
  simp
theorem subT (s : List UInt8) (n : Nat) (h : n ≤ s.length) : subC s 0 (n : Int) = some (s.take n) := by
  rw [subC, if_pos ⟨by omega, by omega, by omega⟩]
  simp [sub]
def pre (s t : List UInt8) : Bool := decide (s.take t.length = t)
theorem has_M (s t : List UInt8) : M.strings_HasPrefix s t = some (pre s t) := by
  rw [M.strings_HasPrefix, M.stringslite_HasPrefix]
  by_cases h : t.length ≤ s.length
  · rw [if_pos (show leI (t.length : Int) (s.length : Int) = true from decide_eq_true (by omega)), subT s t.length h]
    rfl
  · rw [if_neg (show ¬ leI (t.length : Int) (s.length : Int) = true from fun h' => by have := leT h'; omega)]
    have : pre s t = false := decide_eq_false fun e => by have := congrArg List.length e; simp at this; omega
    rw [this]; rfl
theorem begins_M (s t : List UInt8) : M.ref02_begins s t = some (pre s t) := by
  rw [M.ref02_begins]
  by_cases h : t.length ≤ s.length
  · rw [if_pos (show leI (t.length : Int) (s.length : Int) = true from decide_eq_true (by omega)), subT s t.length h]
    rfl
  · rw [if_neg (show ¬ leI (t.length : Int) (s.length : Int) = true from fun h' => by have := leT h'; omega)]
    have : pre s t = false := decide_eq_false fun e => by have := congrArg List.length e; simp at this; omega
    rw [this]; rfl
def smB (c : UInt8) : Bool := (leI 97 (c.toNat : Int)) && (leI (c.toNat : Int) 122)
def caB (c : UInt8) : Bool := (leI 65 (c.toNat : Int)) && (leI (c.toNat : Int) 90)
def diB (c : UInt8) : Bool := (leI 48 (c.toNat : Int)) && (leI (c.toNat : Int) 57)
def inB (c : UInt8) : Bool := smB c || (caB c || (diB c || eqI (c.toNat : Int) 95))
theorem small_M (c : UInt8) : M.lexer_small c = some (smB c) := rfl
theorem capital_M (c : UInt8) : M.lexer_capital c = some (caB c) := rfl
theorem digit_M (c : UInt8) : M.lexer_digit c = some (diB c) := rfl
theorem Small_M (c : UInt8) : M.ref02_Small c = some (smB c) := rfl
theorem Great_M (c : UInt8) : M.ref02_Great c = some (caB c) := rfl
theorem Digit_M (c : UInt8) : M.ref02_Digit c = some (diB c) := rfl
theorem inner_M (c : UInt8) : M.lexer_inner c = some (inB c) := by
  rw [M.lexer_inner, small_M, capital_M, digit_M]
  unfold inB
  cases smB c <;> cases caB c <;> cases diB c <;> rfl
theorem part_M (c : UInt8) : M.ref02_part c = some (inB c) := by
  rw [M.ref02_part, Small_M, Great_M, Digit_M]
  unfold inB
  cases smB c <;> cases caB c <;> cases diB c <;> rfl
def cw (p : UInt8 → Bool) (s : List UInt8) (i : Nat) : Nat := i + ((s.drop i).takeWhile p).length
theorem cw_le (p : UInt8 → Bool) (s : List UInt8) (i : Nat) (h : i ≤ s.length) : i ≤ cw p s i ∧ cw p s i ≤ s.length := by
  unfold cw
  have h1 := (List.takeWhile_prefix p (l := s.drop i)).length_le
  simp at h1
  omega
theorem cw_end (p : UInt8 → Bool) (s : List UInt8) (i : Nat) (h : s.length ≤ i) : cw p s i = i := by
  unfold cw; rw [List.drop_eq_nil_of_le h]; simp
theorem cw_step (p : UInt8 → Bool) (s : List UInt8) (i : Nat) (c : UInt8) (h : s[i]? = some c) : cw p s i = if p c = true then cw p s (i + 1) else i := by
  obtain ⟨hi, rfl⟩ := List.getElem?_eq_some_iff.1 h
  unfold cw
  rw [List.drop_eq_getElem_cons hi, List.takeWhile_cons]
  split
  · simp; omega
  · simp
theorem inner_loop (s : List UInt8) (hs : s.length ≤ 100000) : ∀ (n i k : Nat) (I : Int), I = i → s.length - i ≤ n → n + 1 ≤ k → i ≤ s.length → M.lexer_length_inner_l1 s k I = some ((cw inB s i : Nat) : Int) := by
  intro n
  induction n with
  | zero =>
    intro i k I hI hi hk hl
    obtain ⟨g, rfl⟩ : ∃ g, k = g + 1 := ⟨k - 1, by omega⟩
    rw [M.lexer_length_inner_l1, if_neg (show ¬ ltI I (s.length : Int) = true from fun h => by have := ltT h; omega), cw_end _ _ _ (by omega), hI]
    rfl
  | succ n ih =>
    intro i k I hI hi hk hl
    obtain ⟨g, rfl⟩ : ∃ g, k = g + 1 := ⟨k - 1, by omega⟩
    rw [M.lexer_length_inner_l1]
    by_cases hlt : i < s.length
    · have hx : s[i]? = some s[i] := List.getElem?_eq_getElem hlt
      generalize s[i] = c at hx
      rw [if_pos (show ltI I (s.length : Int) = true from decide_eq_true (by omega)), hI, idxN, hx, cw_step _ _ _ _ hx]
      simp only [obind, inner_M]
      cases inB c
      · rfl
      · simp only [if_true]
        rw [chk64 (by omega) (by omega)]
        simp only [obind]
        exact ih (i + 1) g _ (by omega) (by omega) (by omega) (by omega)
    · rw [if_neg (show ¬ ltI I (s.length : Int) = true from fun h => by have := ltT h; omega), cw_end _ _ _ (by omega), hI]
      rfl
theorem names_loop (s : List UInt8) (hs : s.length ≤ 100000) : ∀ (n i k : Nat) (I : Int), I = i → s.length - i ≤ n → n + 1 ≤ k → i ≤ s.length → M.ref02_names_l1 s k I = some ((cw inB s i : Nat) : Int) := by
  intro n
  induction n with
  | zero =>
    intro i k I hI hi hk hl
    obtain ⟨g, rfl⟩ : ∃ g, k = g + 1 := ⟨k - 1, by omega⟩
    rw [M.ref02_names_l1, if_neg (show ¬ ltI I (s.length : Int) = true from fun h => by have := ltT h; omega), cw_end _ _ _ (by omega), hI]
    rfl
  | succ n ih =>
    intro i k I hI hi hk hl
    obtain ⟨g, rfl⟩ : ∃ g, k = g + 1 := ⟨k - 1, by omega⟩
    rw [M.ref02_names_l1]
    by_cases hlt : i < s.length
    · have hx : s[i]? = some s[i] := List.getElem?_eq_getElem hlt
      generalize s[i] = c at hx
      rw [if_pos (show ltI I (s.length : Int) = true from decide_eq_true (by omega)), hI, idxN, hx, cw_step _ _ _ _ hx]
      simp only [obind, part_M]
      cases inB c
      · rfl
      · simp only [if_true]
        rw [chk64 (by omega) (by omega)]
        simp only [obind]
        exact ih (i + 1) g _ (by omega) (by omega) (by omega) (by omega)
    · rw [if_neg (show ¬ ltI I (s.length : Int) = true from fun h => by have := ltT h; omega), cw_end _ _ _ (by omega), hI]
      rfl
theorem digit_loop (s : List UInt8) (hs : s.length ≤ 100000) : ∀ (n i k : Nat) (I : Int), I = i → s.length - i ≤ n → n + 1 ≤ k → i ≤ s.length → M.lexer_length_digit_l1 s k I = some ((cw diB s i : Nat) : Int) := by
  intro n
  induction n with
  | zero =>
    intro i k I hI hi hk hl
    obtain ⟨g, rfl⟩ : ∃ g, k = g + 1 := ⟨k - 1, by omega⟩
    rw [M.lexer_length_digit_l1, if_neg (show ¬ ltI I (s.length : Int) = true from fun h => by have := ltT h; omega), cw_end _ _ _ (by omega), hI]
    rfl
  | succ n ih =>
    intro i k I hI hi hk hl
    obtain ⟨g, rfl⟩ : ∃ g, k = g + 1 := ⟨k - 1, by omega⟩
    rw [M.lexer_length_digit_l1]
    by_cases hlt : i < s.length
    · have hx : s[i]? = some s[i] := List.getElem?_eq_getElem hlt
      generalize s[i] = c at hx
      rw [if_pos (show ltI I (s.length : Int) = true from decide_eq_true (by omega)), hI, idxN, hx, cw_step _ _ _ _ hx]
      simp only [obind, digit_M]
      cases diB c
      · rfl
      · simp only [if_true]
        rw [chk64 (by omega) (by omega)]
        simp only [obind]
        exact ih (i + 1) g _ (by omega) (by omega) (by omega) (by omega)
    · rw [if_neg (show ¬ ltI I (s.length : Int) = true from fun h => by have := ltT h; omega), cw_end _ _ _ (by omega), hI]
      rfl
theorem Next_loop (s : List UInt8) (hs : s.length ≤ 100000) : ∀ (n i k : Nat) (I : Int), I = i → s.length - i ≤ n → n + 1 ≤ k → i ≤ s.length → M.ref02_Next_l1 s k I = some ((cw diB s i : Nat) : Int) := by
  intro n
  induction n with
  | zero =>
    intro i k I hI hi hk hl
    obtain ⟨g, rfl⟩ : ∃ g, k = g + 1 := ⟨k - 1, by omega⟩
    rw [M.ref02_Next_l1, if_neg (show ¬ ltI I (s.length : Int) = true from fun h => by have := ltT h; omega), cw_end _ _ _ (by omega), hI]
    rfl
  | succ n ih =>
    intro i k I hI hi hk hl
    obtain ⟨g, rfl⟩ : ∃ g, k = g + 1 := ⟨k - 1, by omega⟩
    rw [M.ref02_Next_l1]
    by_cases hlt : i < s.length
    · have hx : s[i]? = some s[i] := List.getElem?_eq_getElem hlt
      generalize s[i] = c at hx
      rw [if_pos (show ltI I (s.length : Int) = true from decide_eq_true (by omega)), hI, idxN, hx, cw_step _ _ _ _ hx]
      simp only [obind, Digit_M]
      cases diB c
      · rfl
      · simp only [if_true]
        rw [chk64 (by omega) (by omega)]
        simp only [obind]
        exact ih (i + 1) g _ (by omega) (by omega) (by omega) (by omega)
    · rw [if_neg (show ¬ ltI I (s.length : Int) = true from fun h => by have := ltT h; omega), cw_end _ _ _ (by omega), hI]
      rfl
theorem inner_len {s : List UInt8} {fuel : Nat} (hs : s.length ≤ 100000) (hf : s.length + 1 ≤ fuel) : M.lexer_length_inner fuel s = some ((cw inB s 0 : Nat) : Int) := by
  rw [M.lexer_length_inner, inner_loop s hs s.length 0 fuel 0 rfl (by omega) hf (by omega)]; rfl
theorem digit_len {s : List UInt8} {fuel : Nat} (hs : s.length ≤ 100000) (hf : s.length + 1 ≤ fuel) : M.lexer_length_digit fuel s = some ((cw diB s 0 : Nat) : Int) := by
  rw [M.lexer_length_digit, digit_loop s hs s.length 0 fuel 0 rfl (by omega) hf (by omega)]; rfl
theorem names_nil {fuel : Nat} : M.ref02_names fuel [] = some 0 := rfl
theorem names_cons {c : UInt8} {s : List UInt8} {fuel : Nat} (hs : (c :: s).length ≤ 100000) (hf : (c :: s).length + 1 ≤ fuel) : M.ref02_names fuel (c :: s) = some (if (smB c || caB c) = true then ((cw inB (c :: s) 0 : Nat) : Int) else 0) := by
  rw [M.ref02_names, show eqS (c :: s) [] = false from decide_eq_false (by simp)]
  simp only [Bool.false_eq_true, if_false, List.getElem?_cons_zero, obind, Small_M, Great_M]
  have hin : (smB c || caB c) = true → inB c = true := fun h => by
    unfold inB
    cases h1 : smB c
    · rw [h1] at h; rw [Bool.false_or] at h; rw [h]; rfl
    · rfl
  have hgo : (smB c || caB c) = true → M.ref02_names_l1 (c :: s) fuel 1 = some ((cw inB (c :: s) 0 : Nat) : Int) := fun h => by
    rw [names_loop (c :: s) hs s.length 1 fuel 1 rfl (by simp) (by simp at hf; omega) (by simp), cw_step inB (c :: s) 0 c rfl, if_pos (hin h)]
  cases h1 : smB c
  · cases h2 : caB c
    · rfl
    · rw [h1, h2] at hgo
      simp only [Bool.not_false, if_true, obind, Bool.not_true, Bool.false_eq_true, if_false, Bool.or_true]
      rw [hgo rfl]; rfl
  · rw [h1] at hgo
    simp only [Bool.not_true, Bool.false_eq_true, if_false, obind, Bool.true_or, if_true]
    rw [hgo rfl]; rfl
def WORDS : List (List UInt8) := [[97, 110, 100, 97, 108, 115, 111], [99, 97, 115, 101], [100, 97, 116, 97], [100, 105, 118], [101, 108, 115, 101], [101, 110, 100], [102, 110], [102, 117, 110], [102, 117, 110, 99, 116, 111, 114], [103, 101, 110, 101, 114, 97, 116, 105, 118, 101], [105, 102], [105, 109, 112, 111, 114, 116], [105, 110], [105, 110, 99, 108, 117, 100, 101], [108, 101, 116], [109, 111, 100], [109, 111, 100, 117, 108, 101], [111, 102], [111, 112, 101, 110], [111, 114, 101, 108, 115, 101], [112, 97, 99, 107], [115, 104, 97, 114, 105, 110, 103], [115, 105, 103], [115, 105, 103, 110, 97, 116, 117, 114, 101], [115, 116, 114, 117, 99, 116], [115, 116, 114, 117, 99, 116, 117, 114, 101], [116, 104, 101, 110], [116, 121, 112, 101], [117, 110, 112, 97, 99, 107], [118, 97, 108], [119, 105, 116, 104]]
theorem ifs (c y : Bool) : (if c = true then some true else some y) = some (c || y) := by cases c <;> rfl
theorem Keyword_M (s : List UInt8) : M.lexer_Keyword s = some (WORDS.any (fun w => eqS s w)) := by
  unfold M.lexer_Keyword
  simp only [ifs]
  rfl
theorem Word_loop (s : List UInt8) (v : List (List UInt8)) : ∀ (n i k : Nat), i + n = v.length → n + 1 ≤ k → M.ref02_Word_l1 s v k i = some (if (v.drop i).any (fun w => eqS s w) then .inl true else .inr ()) := by
  intro n
  induction n with
  | zero =>
    intro i k hi hk
    obtain ⟨g, rfl⟩ : ∃ g, k = g + 1 := ⟨k - 1, by omega⟩
    rw [M.ref02_Word_l1, if_neg (show ¬ ltI (i : Int) (v.length : Int) = true from fun h => by have := ltT h; omega), List.drop_eq_nil_of_le (by omega)]
    rfl
  | succ n ih =>
    intro i k hi hk
    obtain ⟨g, rfl⟩ : ∃ g, k = g + 1 := ⟨k - 1, by omega⟩
    have hx : v[i]? = some v[i] := List.getElem?_eq_getElem (by omega)
    rw [M.ref02_Word_l1, if_pos (show ltI (i : Int) (v.length : Int) = true from decide_eq_true (by omega)), hx, List.drop_eq_getElem_cons (by omega), List.any_cons]
    simp only [obind]
    have e : eqS v[i] s = eqS s v[i] := by unfold eqS; exact decide_eq_decide.2 eq_comm
    rw [e]
    cases eqS s v[i]
    · simp only [Bool.false_eq_true, if_false, Bool.false_or]
      exact ih (i + 1) g (by omega) (by omega)
    · rfl
theorem Word_M (s : List UInt8) {fuel : Nat} (hf : 40 ≤ fuel) : M.ref02_Word fuel s = some (WORDS.any (fun w => eqS s w)) := by
  rw [M.ref02_Word, M.ref02_Words]
  simp only [obind]
  have := Word_loop s WORDS 31 0 fuel rfl (by omega)
  rw [List.drop_zero] at this
  change ((M.ref02_Word_l1 s WORDS fuel 0).bind _) = _
  rw [this]
  cases WORDS.any (fun w => eqS s w) <;> rfl
theorem words_short {s : List UInt8} (h : WORDS.any (fun w => eqS s w) = true) : s.length ≤ 24 := by
  obtain ⟨w, hw, he⟩ := List.any_eq_true.1 h
  have e : s = w := of_decide_eq_true he
  subst e
  have hall : ∀ w ∈ WORDS, w.length ≤ 24 := by decide
  exact hall _ hw
theorem number_l1_eq (s : List UInt8) : ∀ (k : Nat) (n : Int) (i : Nat), M.lexer_number_l1 s k n i = M.ref02_Number_l1 s k n i := by
  intro k
  induction k with
  | zero => intro n i; rfl
  | succ k ih =>
    intro n i
    rw [M.lexer_number_l1, M.ref02_Number_l1]
    simp only [ih]
theorem number_eq (fuel : Nat) (s : List UInt8) : M.lexer_number fuel s = M.ref02_Number fuel s := by
  rw [M.lexer_number, M.ref02_Number]
  simp only [number_l1_eq]
theorem chku8 {n : Int} (h1 : 0 ≤ n) (h2 : n ≤ 255) : chk .u8 n = some n := by rw [chk, if_pos]; exact ⟨h1, h2⟩
theorem number_loop (s : List UInt8) (hd : ∀ c ∈ s, diB c = true) : ∀ (n i k : Nat) (m : Int), i + n = s.length → n + 1 ≤ k → 0 ≤ m → m ≤ 4503599627370496 → ∃ o, M.lexer_number_l1 s k m i = some o := by
  intro n
  induction n with
  | zero =>
    intro i k m hi hk h0 h1
    obtain ⟨g, rfl⟩ : ∃ g, k = g + 1 := ⟨k - 1, by omega⟩
    rw [M.lexer_number_l1, if_neg (show ¬ ltI (i : Int) (s.length : Int) = true from fun h => by have := ltT h; omega)]
    exact ⟨_, rfl⟩
  | succ n ih =>
    intro i k m hi hk h0 h1
    obtain ⟨g, rfl⟩ : ∃ g, k = g + 1 := ⟨k - 1, by omega⟩
    have hx : s[i]? = some s[i] := List.getElem?_eq_getElem (by omega)
    have hc := hd s[i] (List.getElem_mem _)
    generalize s[i] = c at hx hc
    unfold diB at hc
    rw [Bool.and_eq_true] at hc
    have c1 := leT hc.1; have c2 := leT hc.2
    rw [M.lexer_number_l1, if_pos (show ltI (i : Int) (s.length : Int) = true from decide_eq_true (by omega)), chk64 (by omega) (by omega), hx]
    simp only [obind]
    rw [chku8 (by omega) (by omega)]
    simp only [obind]
    rw [chk64 (by omega) (by omega)]
    simp only [obind]
    by_cases hb : 4503599627370496 < 10 * m + ((c.toNat : Int) - 48)
    · rw [if_pos (show ltI 4503599627370496 _ = true from decide_eq_true hb)]
      exact ⟨_, rfl⟩
    · rw [if_neg (show ¬ ltI 4503599627370496 _ = true from fun h => hb (ltT h))]
      exact ih (i + 1) g _ (by omega) (by omega) (by omega) (by omega)
theorem number_total (s : List UInt8) {fuel : Nat} (hd : ∀ c ∈ s, diB c = true) (hf : s.length + 1 ≤ fuel) : ∃ e, M.lexer_number fuel s = some e := by
  obtain ⟨o, ho⟩ := number_loop s hd s.length 0 fuel 0 (by simp) hf (by omega) (by omega)
  rw [M.lexer_number, ho]
  have fin : ∀ b : Bool, ∃ e, (if b = true then some 3 else (some o).bind fun o => Sum.elim some (fun o14 => some 0) o) = some e := fun b => by
    cases b
    · cases o <;> exact ⟨_, rfl⟩
    · exact ⟨_, rfl⟩
  by_cases h : 1 < s.length
  · rw [if_pos (show ltI 1 (s.length : Int) = true from decide_eq_true (by omega)), List.getElem?_eq_getElem (by omega : 0 < s.length)]
    simp only [obind]
    exact fin _
  · rw [if_neg (show ¬ ltI 1 (s.length : Int) = true from fun h' => by have := ltT h'; omega)]
    simp only [obind]
    exact fin false
theorem Sym_loop (s : List UInt8) (v : List (List UInt8)) : ∀ (n i k : Nat), i + n = v.length → n + 1 ≤ k → M.lexer_Symbol_l1 s v k i = some (match (v.drop i).find? (pre s) with | some x => .inl (x, true) | none => .inr ()) := by
  intro n
  induction n with
  | zero =>
    intro i k hi hk
    obtain ⟨g, rfl⟩ : ∃ g, k = g + 1 := ⟨k - 1, by omega⟩
    rw [M.lexer_Symbol_l1, if_neg (show ¬ ltI (i : Int) (v.length : Int) = true from fun h => by have := ltT h; omega), List.drop_eq_nil_of_le (by omega)]
    rfl
  | succ n ih =>
    intro i k hi hk
    obtain ⟨g, rfl⟩ : ∃ g, k = g + 1 := ⟨k - 1, by omega⟩
    have hx : v[i]? = some v[i] := List.getElem?_eq_getElem (by omega)
    rw [M.lexer_Symbol_l1, if_pos (show ltI (i : Int) (v.length : Int) = true from decide_eq_true (by omega)), hx, List.drop_eq_getElem_cons (by omega), List.find?_cons]
    simp only [obind, has_M]
    cases pre s v[i]
    · simp only [Bool.false_eq_true, if_false]
      exact ih (i + 1) g (by omega) (by omega)
    · rfl
theorem Sym2_loop (s : List UInt8) (v : List (List UInt8)) : ∀ (n i k : Nat), i + n = v.length → n + 1 ≤ k → M.ref02_Symbol_l1 s v k i = some (match (v.drop i).find? (pre s) with | some x => .inl x | none => .inr ()) := by
  intro n
  induction n with
  | zero =>
    intro i k hi hk
    obtain ⟨g, rfl⟩ : ∃ g, k = g + 1 := ⟨k - 1, by omega⟩
    rw [M.ref02_Symbol_l1, if_neg (show ¬ ltI (i : Int) (v.length : Int) = true from fun h => by have := ltT h; omega), List.drop_eq_nil_of_le (by omega)]
    rfl
  | succ n ih =>
    intro i k hi hk
    obtain ⟨g, rfl⟩ : ∃ g, k = g + 1 := ⟨k - 1, by omega⟩
    have hx : v[i]? = some v[i] := List.getElem?_eq_getElem (by omega)
    rw [M.ref02_Symbol_l1, if_pos (show ltI (i : Int) (v.length : Int) = true from decide_eq_true (by omega)), hx, List.drop_eq_getElem_cons (by omega), List.find?_cons]
    simp only [obind, begins_M]
    cases pre s v[i]
    · simp only [Bool.false_eq_true, if_false]
      exact ih (i + 1) g (by omega) (by omega)
    · rfl
theorem find_single (c : UInt8) (r : List UInt8) : ∀ b : List UInt8, (b.map fun x => [x]).find? (pre (c :: r)) = if 0 ≤ Lib.indexByte b c then some [c] else none
  | [] => by simp [Lib.indexByte]
  | x :: b => by
    have ih := find_single c r b
    have hge := Lib.indexByte_ge b c
    have e : pre (c :: r) [x] = decide (c = x) := by unfold pre; simp
    rw [List.map_cons, List.find?_cons, e, Lib.indexByte]
    by_cases h : c = x
    · subst h; simp
    · have h' : ¬ x = c := fun e => h e.symm
      simp only [h, decide_false, ih, beq_iff_eq, h', if_false]
      by_cases h2 : Lib.indexByte b c = -1
      · simp [h2]
      · rw [if_neg h2, if_pos (by omega), if_pos (by omega)]
def SA : List (List UInt8) := [[58, 62], [61, 62], [45, 62], [60, 61]]
def SB : List UInt8 := [40, 41, 44, 59, 58, 61, 124, 95, 46, 42, 43, 45, 60, 94, 126]
theorem Symbol_both (c : UInt8) (r : List UInt8) {fuel : Nat} (hf : 40 ≤ fuel) : ∃ y, M.ref02_Symbol fuel (c :: r) = some y ∧ M.lexer_Symbol fuel (c :: r) = some (y, decide (y ≠ [])) ∧ y.length ≤ (c :: r).length := by
  rw [M.ref02_Symbol, M.lexer_Symbol, has_M, begins_M]
  simp only [obind]
  cases h0 : pre (c :: r) [40, 42]
  case true => exact ⟨[], rfl, rfl, by simp⟩
  simp only [Bool.false_eq_true, if_false]
  have hA := Sym_loop (c :: r) SA 4 0 fuel rfl (by omega)
  have hB := Sym2_loop (c :: r) (SA ++ SB.map fun x => [x]) 19 0 fuel rfl (by omega)
  rw [List.drop_zero] at hA hB
  rw [List.find?_append, find_single] at hB
  change ∃ y, ((M.ref02_Symbol_l1 (c :: r) (SA ++ SB.map fun x => [x]) fuel 0).bind _) = some y ∧ ((M.lexer_Symbol_l1 (c :: r) SA fuel 0).bind _) = _ ∧ _
  rw [hA, hB]
  cases hfa : SA.find? (pre (c :: r)) with
  | some x =>
    have hx := List.find?_some hfa
    have hm := List.mem_of_find?_eq_some hfa
    have hne : x ≠ [] := by
      have : ∀ x ∈ SA, x ≠ [] := by decide
      exact this x hm
    have hxe : (c :: r).take x.length = x := of_decide_eq_true hx
    refine ⟨x, rfl, by simp [hne], ?_⟩
    have := congrArg List.length hxe
    simp at this ⊢
    omega
  | none =>
    have hns : eqS (c :: r) [] = false := decide_eq_false (by simp)
    simp only [Option.none_or, obind, Sum.elim_inr, hns, Bool.not_false, if_true, List.getElem?_cons_zero]
    have hI : M.strings_IndexByte [40, 41, 44, 59, 58, 61, 124, 95, 46, 42, 43, 45, 60, 94, 126] c = some (Lib.indexByte SB c) := rfl
    rw [hI]
    simp only [obind]
    by_cases h : 0 ≤ Lib.indexByte SB c
    · rw [if_pos h, show leI 0 (Lib.indexByte SB c) = true from decide_eq_true h]
      have := subT (c :: r) 1 (by simp)
      simp only [if_true]
      rw [show subC (c :: r) 0 1 = _ from this]
      exact ⟨[c], rfl, by simp, by simp⟩
    · rw [if_neg h, show leI 0 (Lib.indexByte SB c) = false from decide_eq_false h]
      exact ⟨[], rfl, by simp, by simp⟩
end Go.Proofs.YthbjlmoaceaeeaaDoor
