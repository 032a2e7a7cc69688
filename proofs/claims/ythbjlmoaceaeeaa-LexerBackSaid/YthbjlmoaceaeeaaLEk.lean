/- For every input the law LexerBack returns true. Part 11 of 16. No condition. -/
import Derived.Test.YthbjlmoaceaeeaaLEj
import Derived.Shelf.Strings.Builder1
import Derived.Shelf.Strings.Builder2
import Derived.Shelf.Strings.OnBuilder
import Derived.Shelf.Small.Strs
import Derived.Shelf.Strings.Search1
import Derived.Shelf.Strings.Search2
import Derived.Shelf.Strings.Search3
import Derived.Shelf.Strings.Count
import Derived.Shelf.LaysM
import Derived.Shelf.Strings.Shaped
import Derived.Shelf.Strings.Split
set_option linter.unusedVariables false
namespace Go.Proofs
open Go.Shelf
def Try.lays156_ren : Go.Shelf.Ren := ⟨fun | 156 => 81 | 165 => 126 | 166 => 73 | 169 => 75 | 240 => 124 | 241 => 144 | 276 => 143 | 277 => 147 | n => n, fun | 31 => 23 | 9 => 9 | 3 => 3 | 4 => 4 | 0 => 0 | 20 => 20 | 72 => 119 | 76 => 123 | 70 => 117 | 37 => 66 | 75 => 121 | 127 => 161 | 164 => 171 | 5 => 5 | 80 => 126 | n => n, fun | n => n⟩
theorem Try.lays156 : Go.Proofs.Lays.n156 Try.prog Try.lays156_ren := {
  mixed := by kernel_rfl
  f156 := Try.func81.trans (congrArg some (by kernel_rfl))
  f165 := Try.func126.trans (congrArg some (by kernel_rfl))
  f166 := Try.func73.trans (congrArg some (by kernel_rfl))
  f169 := Try.func75.trans (congrArg some (by kernel_rfl))
  f240 := Try.func124.trans (congrArg some (by kernel_rfl))
  f241 := Try.func144.trans (congrArg some (by kernel_rfl))
  f276 := Try.func143.trans (congrArg some (by kernel_rfl))
  f277 := Try.func147.trans (congrArg some (by kernel_rfl))
  t0 := Try.underlying0
  a0 := Try.isAgg0
  z0 := Try.sizeOf0
  v0 := Try.zeroValue0
  t3 := Try.underlying3
  a3 := Try.isAgg3
  z3 := Try.sizeOf3
  v3 := Try.zeroValue3
  t4 := Try.underlying4
  a4 := Try.isAgg4
  z4 := Try.sizeOf4
  v4 := Try.zeroValue4
  t9 := Try.underlying9
  a9 := Try.isAgg9
  z9 := Try.sizeOf9
  v9 := Try.zeroValue9
  t20 := Try.underlying20
  a20 := Try.isAgg20
  z20 := Try.sizeOf20
  v20 := Try.zeroValue20
  t31 := Try.underlying23
  a31 := Try.isAgg23
  z31 := Try.sizeOf23
  v31 := Try.zeroValue23
  t37 := Try.underlying66
  a37 := Try.isAgg66
  z37 := Try.sizeOf66
  v37 := Try.zeroValue66
  t70 := Try.underlying117
  a70 := Try.isAgg117
  z70 := Try.sizeOf117
  v70 := Try.zeroValue117
  t72 := Try.underlying119
  a72 := Try.isAgg119
  z72 := Try.sizeOf119
  v72 := Try.zeroValue119
  t75 := Try.underlying121
  a75 := Try.isAgg121
  z75 := Try.sizeOf121
  v75 := Try.zeroValue121
  t76 := Try.underlying123
  a76 := Try.isAgg123
  z76 := Try.sizeOf123
  v76 := Try.zeroValue123
  t127 := Try.underlying161
  a127 := Try.isAgg161
  z127 := Try.sizeOf161
  v127 := Try.zeroValue161
  t164 := Try.underlying171
  a164 := Try.isAgg171
  z164 := Try.sizeOf171
  v164 := Try.zeroValue171 }
theorem Try.Builder_Extra_156 : Builder.Extra Try.prog Try.lays156_ren := {
  sizeBuilder := by kernel_rfl
  liesBuilder := by kernel_rfl
  t5 := Try.underlying5
  a5 := Try.isAgg5
  z5 := Try.sizeOf5
  v5 := Try.zeroValue5
  infoByte := by kernel_rfl
  cellsByte := by kernel_rfl
  sizeByte := by kernel_rfl
  neB5 := by decide }
open Go.RowKit in
theorem Try.strings_Join_none (a : Option Addr) (c : Nat) (sep : ByteArray) (w : World) :
    Calls Try.prog 81 #[.slice a 0 c, .string sep] w fun e w' => e = .returned (.string ⟨#[]⟩) ∧ w' = w := Any.strings_Join_none Try.lays156 Try.Builder_Extra_156 a c sep w
open Go.RowKit in
theorem Try.strings_Join (bk o c : Nat) (xs : List ByteArray) (sep : ByteArray) (w : World) (hcells : ∀ (j : Nat) x, xs[j]? = some x → w.cell? ⟨bk, o + j, none⟩ = some (.string x)) (hbk : bk < w.heap.size) (hN : xs.length ≤ 140737488355328) (hcap : xs.length ≤ c) (hlen : (Lib.join (xs.map (·.data.toList)) sep.data.toList).length ≤ 140737488355328) :
    Calls Try.prog 81 #[.slice (some ⟨bk, o, none⟩) xs.length c, .string sep] w fun e w' => e = .returned (.string ⟨(Lib.join (xs.map (·.data.toList)) sep.data.toList).toArray⟩) ∧ Below w.heap.size w w' := Any.strings_Join Try.lays156 Try.Builder_Extra_156 bk o c xs sep w hcells hbk hN hcap hlen
def Try.lays144_ren : Go.Shelf.Ren := ⟨fun | 144 => 38 | 143 => 71 | 219 => 123 | 217 => 132 | 225 => 140 | 224 => 141 | 267 => 142 | 266 => 145 | 314 => 146 | n => n, fun | 9 => 9 | 4 => 4 | 3 => 3 | 5 => 5 | 46 => 170 | 146 => 174 | 51 => 173 | n => n, fun | 1 => 0 | n => n⟩
theorem Try.lays144 : Go.Proofs.Lays.n144 Try.prog Try.lays144_ren := {
  mixed := by kernel_rfl
  f143 := Try.func71.trans (congrArg some (by kernel_rfl))
  f144 := Try.func38.trans (congrArg some (by kernel_rfl))
  f217 := Try.func132.trans (congrArg some (by kernel_rfl))
  f219 := Try.func123.trans (congrArg some (by kernel_rfl))
  f224 := Try.func141.trans (congrArg some (by kernel_rfl))
  f225 := Try.func140.trans (congrArg some (by kernel_rfl))
  f266 := Try.func145.trans (congrArg some (by kernel_rfl))
  f267 := Try.func142.trans (congrArg some (by kernel_rfl))
  f314 := Try.func146.trans (congrArg some (by kernel_rfl))
  t3 := Try.underlying3
  a3 := Try.isAgg3
  z3 := Try.sizeOf3
  v3 := Try.zeroValue3
  t4 := Try.underlying4
  a4 := Try.isAgg4
  z4 := Try.sizeOf4
  v4 := Try.zeroValue4
  t5 := Try.underlying5
  a5 := Try.isAgg5
  z5 := Try.sizeOf5
  v5 := Try.zeroValue5
  t9 := Try.underlying9
  a9 := Try.isAgg9
  z9 := Try.sizeOf9
  v9 := Try.zeroValue9
  t46 := Try.underlying170
  a46 := Try.isAgg170
  z46 := Try.sizeOf170
  v46 := Try.zeroValue170
  t51 := Try.underlying173
  a51 := Try.isAgg173
  z51 := Try.sizeOf173
  v51 := Try.zeroValue173
  t146 := Try.underlying174
  a146 := Try.isAgg174
  z146 := Try.sizeOf174
  v146 := Try.zeroValue174
  g1 := by kernel_rfl }
open Go.RowKit Go.Lib in
theorem Try.strings_Contains_one (s : ByteArray) (c : UInt8) (w : World) :
    Calls Try.prog 38 #[.string s, .string ⟨#[c]⟩] w fun e w' => e = .returned (.bool (decide (0 ≤ Lib.indexByte s.data.toList c))) ∧ w' = w := Any.strings_Contains_one Try.lays144 s c w
end Go.Proofs
set_option linter.unusedVariables false
set_option linter.unusedSimpArgs false
set_option maxRecDepth 100000
namespace Go.Proofs.Ythbjlmoaceaeeaa
open Go Go.Abs Go.RowKit
theorem strings_Contains_ok (s t : List UInt8) (r : Bool) (h : M.strings_Contains s t = some r) : Pure Try.prog 38 [.str s, .str t] (.bool r) := by
  refine pure_of_calls ⟨Try.f38, Try.func38, by rfl, by rfl⟩ fun imm w vals ha => ?_
  obtain ⟨a, b, rfl, h1, h2⟩ := vals2 ha
  unfold M.strings_Contains at h
  split at h
  · rename_i c
    cases h
    cases h1 with
    | str s l hs hb =>
      cases h2 with
      | str t l2 ht _ =>
        have := bytes_of ht; subst this
        refine (Try.strings_Contains_one s c w).mono fun e w' he => ?_
        obtain ⟨rfl, rfl⟩ := he
        refine ⟨_, rfl, ?_, rfl⟩
        rw [hs]
        exact .bool _
  · cases h
theorem strings_Join_ok (l : List (List UInt8)) (s : List UInt8) (r : List UInt8) (h : M.strings_Join l s = some r) : Pure Try.prog 81 [.sl (l.map cS), .str s] (.str r) := by
  refine pure_of_below ⟨Try.f81, Try.func81, by rfl, by rfl⟩ fun imm w vals him hgl ha => ?_
  obtain ⟨a, b, rfl, h1, h2⟩ := vals2 ha
  unfold M.strings_Join at h
  split at h
  case isFalse => cases h
  rename_i hlen
  cases h
  cases h2 with
  | str sb _ hs hb =>
    have := bytes_of hs; subst this
    cases l with
    | nil =>
      have hv : ∃ ad c, a = .slice ad 0 c := by
        cases h1 with
        | sl0 => exact ⟨none, 0, rfl⟩
        | sl ec L ad n cap vs hn hc hbd he h r => exact ⟨some ad, cap, by rw [hn]; rfl⟩
      obtain ⟨ad, c, rfl⟩ := hv
      refine (Try.strings_Join_none ad c _ w).mono fun e w' he => ?_
      obtain ⟨rfl, rfl⟩ := he
      refine ⟨_, rfl, .str _ _ ?_ (by simp [Lib.join_nil]), Below.refl _ _⟩
      rw [Lib.join_nil]
    | cons x l =>
      cases h1 with
      | sl ec L ad n cap vs hn hc hbd he hh rr =>
        have hec : ec = 1 := (he 0 _ rfl).symm
        subst hec
        have h0 := him _ _ (hh 0 _ rfl 0 _ rfl)
        obtain ⟨bk, o, sp⟩ := ad
        have hlt := World.block_lt_of_cell? _ _ h0
        rw [add_block] at hlt
        have hsp : sp = none := by
          cases sp with
          | none => rfl
          | some q =>
            have : ((⟨bk, o, some q⟩ : Addr).add (0 * 1 + 0)) = ⟨bk, o, some q⟩ := by simp [Addr.add]
            rw [this] at h0
            simp only [World.cell?, Option.isSome_some, if_true] at h0
            split at h0 <;> cases h0
        subst hsp
        obtain ⟨xs, h1, h2, h3⟩ : ∃ xs : List ByteArray, xs.map (·.data.toList) = x :: l ∧ xs.length = n ∧ ∀ (j : Nat) y, xs[j]? = some y → ∃ z, (x :: l)[j]? = some z ∧ (⟨z.toArray⟩ : ByteArray) = y :=
          ⟨(x :: l).map fun b => (⟨b.toArray⟩ : ByteArray), map_bytes _, by rw [hn]; simp, fun j y hy => (by obtain ⟨z, hz, e⟩ := getElem?_map_some hy; exact ⟨z, hz, e.symm⟩)⟩
        rw [← h1] at hlen
        have hcap : xs.length ≤ cap := by rw [h2]; exact hc
        have hN : xs.length ≤ 140737488355328 := by have := hlen.1; rw [List.length_map] at this; exact this
        have hcells : ∀ (j : Nat) y, xs[j]? = some y → w.cell? ⟨bk, o + j, none⟩ = some (.string y) := by
          intro j y hy
          obtain ⟨z, hz, rfl⟩ := h3 j y hy
          have hm : ((x :: l).map cS)[j]? = some (cS z) := by rw [List.getElem?_map, hz]; rfl
          have e1 := him _ _ (hh j _ hm 0 _ rfl)
          have e2 := rr j _ hm 0 (.str z) rfl
          generalize vs j 0 = u at e1 e2
          cases e2 with
          | str sz _ hsz _ =>
            have := bytes_of hsz; subst this
            have : ((⟨bk, o, none⟩ : Addr).add (j * 1 + 0)) = ⟨bk, o + j, none⟩ := by
              unfold Addr.add
              split
              · rename_i h0; have : j = 0 := by omega
                subst this; rfl
              · simp
            rw [this] at e1
            exact e1
        have hjl : (Lib.join (xs.map (·.data.toList)) (⟨s.toArray⟩ : ByteArray).data.toList).length ≤ 140737488355328 := hlen.2
        have key := Try.strings_Join bk o cap xs ⟨s.toArray⟩ w hcells hlt hN hcap hjl
        rw [h2] at key
        refine key.mono fun e w' he => ?_
        obtain ⟨rfl, hbel⟩ := he
        rw [h1] at hlen
        refine ⟨_, rfl, .str _ _ (by rw [h1]) (Nat.le_trans hlen.2 (by decide)), hbel⟩
end Go.Proofs.Ythbjlmoaceaeeaa
set_option linter.unusedVariables false
set_option linter.unusedSimpArgs false
set_option maxRecDepth 100000
set_option maxHeartbeats 1000000
namespace Go.Proofs.Ythbjlmoaceaeeaa
open Go Go.Abs
theorem strings_IndexByte_ok (s1 : (List UInt8)) (c2 : UInt8) (r : Int) (h : M.strings_IndexByte s1 c2 = some r) : Pure Try.prog 99 [.str s1, .int .u8 (c2.toNat : Int)] (.int .i64 r) := by
  rw [M.strings_IndexByte] at h
  refine pure_of_body Try.func99 (by rfl) (by rfl) (by simp) (by simp) (by simp) ?_
  refine cut 8 0 [(0, .str s1), (1, .int .u8 (c2.toNat : Int))] [] ?_ ?_
  · refine st ?_
    simp
  obtain ⟨v3, q4, h⟩ := bs h
  refine cut 8 0 [(4, .int .i64 v3)] [] ?_ ?_
  · refine st ?_
    simp
    have r5 := stringslite_IndexByte_ok s1 c2 v3 q4
    try simp [] at r5
    refine callPure r5 (by simp) rfl ?_
    simp
  refine awp_ret ?_
  obtain rfl := Option.some.inj h
  simp
end Go.Proofs.Ythbjlmoaceaeeaa
set_option linter.unusedVariables false
set_option linter.unusedSimpArgs false
set_option maxRecDepth 100000
set_option maxHeartbeats 1000000
namespace Go.Proofs.Ythbjlmoaceaeeaa
open Go Go.Abs
theorem stringslite_HasPrefix_ok (s1 : (List UInt8)) (prefix2 : (List UInt8)) (r : Bool) (h : M.stringslite_HasPrefix s1 prefix2 = some r) : Pure Try.prog 133 [.str s1, .str prefix2] (.bool r) := by
  rw [M.stringslite_HasPrefix] at h
  refine pure_of_body Try.func133 (by rfl) (by rfl) (by simp) (by simp) (by simp) ?_
  refine cut 18 0 [(0, .str s1), (1, .str prefix2)] [] ?_ ?_
  · refine st ?_
    simp
  obtain ⟨b14, q15, h⟩ := bs h
  refine cut 18 0 [(4, .bool b14)] [] ?_ ?_
  · rcases sp q15 with ⟨g3, q15⟩ | ⟨g3, q15⟩
    · have c4 := leT g3
      refine factS 1 rfl fun f5 => ?_
      refine factS 0 rfl fun f6 => ?_
      obtain ⟨s7, q8, q15⟩ := bs q15
      obtain ⟨q9, q10⟩ := subC_ok q8
      try simp at q9
      try simp at q10
      obtain rfl := Option.some.inj q15
      refine st ?_
      simp [g3, q9, q10]
    · have c11 := leF g3
      refine factS 1 rfl fun f12 => ?_
      refine factS 0 rfl fun f13 => ?_
      obtain rfl := Option.some.inj q15
      refine st ?_
      simp [g3]
  refine awp_ret ?_
  obtain rfl := Option.some.inj h
  simp
end Go.Proofs.Ythbjlmoaceaeeaa
set_option linter.unusedVariables false
set_option linter.unusedSimpArgs false
set_option maxRecDepth 100000
set_option maxHeartbeats 1000000
namespace Go.Proofs.Ythbjlmoaceaeeaa
open Go Go.Abs
theorem strings_HasPrefix_ok (s1 : (List UInt8)) (prefix2 : (List UInt8)) (r : Bool) (h : M.strings_HasPrefix s1 prefix2 = some r) : Pure Try.prog 100 [.str s1, .str prefix2] (.bool r) := by
  rw [M.strings_HasPrefix] at h
  refine pure_of_body Try.func100 (by rfl) (by rfl) (by simp) (by simp) (by simp) ?_
  refine cut 8 0 [(0, .str s1), (1, .str prefix2)] [] ?_ ?_
  · refine st ?_
    simp
  obtain ⟨v3, q4, h⟩ := bs h
  refine cut 8 0 [(4, .bool v3)] [] ?_ ?_
  · refine st ?_
    simp
    have r5 := stringslite_HasPrefix_ok s1 prefix2 v3 q4
    try simp [] at r5
    refine callPure r5 (by simp) rfl ?_
    simp
  refine awp_ret ?_
  obtain rfl := Option.some.inj h
  simp
end Go.Proofs.Ythbjlmoaceaeeaa
set_option linter.unusedVariables false
set_option linter.unusedSimpArgs false
set_option maxRecDepth 100000
set_option maxHeartbeats 1000000
namespace Go.Proofs.Ythbjlmoaceaeeaa
open Go Go.Abs
theorem lexer_scanner_skip_ok (fuel : Nat) (w1 : Lexer.scanner) (r : Int × Lexer.scanner) (h : M.lexer_scanner_skip fuel w1 = some r) : Raw Try.prog 61 [.mptr 0 0] [[.str w1.s, .int .i64 w1.at_]] (.int .i64 r.1) [[.str r.2.s, .int .i64 r.2.at_]] := by
  rw [M.lexer_scanner_skip] at h
  refine raw_of_bodyB Try.func61 (by rfl) (by rfl) (by simp) (by simp) ?_
  refine cut 105 1 [(0, .mptr 0 0)] [[.str w1.s, .int .i64 w1.at_]] ?_ ?_
  · refine st ?_
    simp
  refine awp_seq ?_
  refine awp_block ?_
  obtain ⟨o4, l5, h⟩ := bs h
  refine awp_inv (fun p : Nat × Int => mkS 105 1 [(0, .mptr 0 0)] [[.str w1.s, .int .i64 p.2]]) (fun p => M.lexer_scanner_skip_l1 fuel w1 p.1 p.2 = some o4) (fun p => p.1) (fuel, w1.at_) l5 (le_mkS (by simp)) ?_
  rintro ⟨k6, at2⟩ l5
  dsimp only at l5 ⊢
  cases k6 with
  | zero =>
    rw [M.lexer_scanner_skip_l1] at l5; cases l5
  | succ k7 =>
    rw [M.lexer_scanner_skip_l1] at l5
    refine awp_seq ?_
    refine cut 105 1 [(0, .mptr 0 0), (15, .bool (ltI at2 (w1.s.length : Int)))] [[.str w1.s, .int .i64 at2]] ?_ ?_
    · refine awp_region_draw [] mixed (n := 105) rfl (by decide) ?_
      simp
    rcases sp l5 with ⟨g8, l5⟩ | ⟨g8, l5⟩
    · have c9 := ltT g8
      refine condT rfl g8 ?_
      refine factCS 0 0 rfl rfl fun f10 => ?_
      refine awp_skip ?_
      refine seq_eq ?_
      refine awp_block ?_
      obtain ⟨s11, q12, l5⟩ := bs l5
      obtain ⟨q13, q14⟩ := subC_ok q12
      try simp at q13
      try simp at q14
      refine cut 105 1 [(0, .mptr 0 0), (3, .str s11)] [[.str w1.s, .int .i64 at2]] ?_ ?_
      · refine awp_region_draw [] mixed (n := 105) rfl (by decide) ?_
        simp [q13, q14]
      refine awp_block ?_
      obtain ⟨c15, q16, l5⟩ := bs l5
      obtain ⟨v17, q18, l5⟩ := bs l5
      refine cut 105 1 [(0, .mptr 0 0), (3, .str s11), (25, .bool (leI 0 v17))] [[.str w1.s, .int .i64 at2]] ?_ ?_
      · refine st ?_
        simp [q16]
        have r90 := strings_IndexByte_ok [32, 9, 10] c15 v17 q18
        try simp [q16] at r90
        refine callPure r90 (by simp) rfl ?_
        simp [q16]
      rcases sp l5 with ⟨g19, l5⟩ | ⟨g19, l5⟩
      · have c20 := leT g19
        refine condT rfl g19 ?_
        obtain ⟨n21, q22, l5⟩ := bs l5
        obtain ⟨q23, q24⟩ := chk_ok q22
        try simp at q23
        try simp at q24
        have c25 := q23; simp only [Rng, inR] at c25
        refine last 105 1 [(0, .mptr 0 0)] [[.str w1.s, .int .i64 n21]] ?_ fun zz hs => ?_
        · refine st ?_
          simp [q23, q24]
        refine blk_n ?_
        refine blk_n ?_
        exact ⟨(k7, n21), hs, l5, by simp⟩
      · have c26 := leF g19
        refine condF rfl g19 ?_
        obtain ⟨v27, q28, l5⟩ := bs l5
        refine cut 105 1 [(0, .mptr 0 0), (37, .bool v27)] [[.str w1.s, .int .i64 at2]] ?_ ?_
        · refine st ?_
          simp
          have r89 := strings_HasPrefix_ok s11 [40, 42] v27 q28
          try simp [] at r89
          refine callPure r89 (by simp) rfl ?_
          simp
        rcases sp l5 with ⟨g29, l5⟩ | ⟨g29, l5⟩
        · refine condT rfl g29 ?_
          refine cut 105 1 [(0, .mptr 0 0), (4, .int .i64 at2), (5, .int .i64 0)] [[.str w1.s, .int .i64 at2]] ?_ ?_
          · refine st ?_
            simp
          refine awp_block ?_
          obtain ⟨o33, l34, l5⟩ := bs l5
          refine awp_inv (fun p : Nat × Int × Int => mkS 105 1 [(0, .mptr 0 0), (4, .int .i64 at2), (5, .int .i64 p.2.2)] [[.str w1.s, .int .i64 p.2.1]]) (fun p => M.lexer_scanner_skip_l2 w1 at2 p.1 p.2.1 p.2.2 = some o33) (fun p => p.1) (fuel, at2, 0) l34 (le_mkS (by simp)) ?_
          rintro ⟨k35, at30, i31⟩ l34
          dsimp only at l34 ⊢
          cases k35 with
          | zero =>
            rw [M.lexer_scanner_skip_l2] at l34; cases l34
          | succ k36 =>
            rw [M.lexer_scanner_skip_l2] at l34
            refine awp_block ?_
            refine awp_seq ?_
            refine awp_block ?_
            refine cut 105 1 [(0, .mptr 0 0), (4, .int .i64 at2), (5, .int .i64 i31), (51, .bool (leI (w1.s.length : Int) at30))] [[.str w1.s, .int .i64 at30]] ?_ ?_
            · refine awp_region_draw [] mixed (n := 105) rfl (by decide) ?_
              simp
            rcases sp l34 with ⟨g37, l34⟩ | ⟨g37, l34⟩
            · have c38 := leT g37
              refine condT rfl g37 ?_
              refine cut 105 1 [(2, .int .i64 at2)] [[.str w1.s, .int .i64 at30]] ?_ ?_
              · refine st ?_
                simp
              refine awp_ret ?_
              refine ret_blk ?_
              refine ret_seq ?_
              refine ret_blk ?_
              replace l5 := retL l34 l5
              refine ret_seq ?_
              refine ret_blk ?_
              refine ret_blk ?_
              refine ret_blk ?_
              replace h := retL l5 h
              refine ret_seq ?_
              refine ret_blk ?_
              refine ret_seq ?_
              obtain rfl := Option.some.inj h
              simp
            · have c39 := leF g37
              refine condF rfl g37 ?_
              obtain ⟨s40, q41, l34⟩ := bs l34
              obtain ⟨q42, q43⟩ := subC_ok q41
              try simp at q42
              try simp at q43
              obtain ⟨v44, q45, l34⟩ := bs l34
              refine cut 105 1 [(0, .mptr 0 0), (4, .int .i64 at2), (5, .int .i64 i31), (63, .bool v44)] [[.str w1.s, .int .i64 at30]] ?_ ?_
              · refine awp_region_draw [] mixed (n := 105) rfl (by decide) ?_
                simp [q42, q43]
                have r88 := strings_HasPrefix_ok s40 [40, 42] v44 q45
                try simp [q42, q43] at r88
                refine callD r88 (by simp) rfl ?_
                simp [q42, q43]
              rcases sp l34 with ⟨g46, l34⟩ | ⟨g46, l34⟩
              · refine condT rfl g46 ?_
                obtain ⟨n47, q48, l34⟩ := bs l34
                obtain ⟨q49, q50⟩ := chk_ok q48
                try simp at q49
                try simp at q50
                have c51 := q49; simp only [Rng, inR] at c51
                refine cut 105 1 [(0, .mptr 0 0), (4, .int .i64 at2), (5, .int .i64 n47)] [[.str w1.s, .int .i64 at30]] ?_ ?_
                · refine st ?_
                  simp [q49, q50]
                obtain ⟨n52, q53, l34⟩ := bs l34
                obtain ⟨q54, q55⟩ := chk_ok q53
                try simp at q54
                try simp at q55
                have c56 := q54; simp only [Rng, inR] at c56
                refine last 105 1 [(0, .mptr 0 0), (4, .int .i64 at2), (5, .int .i64 n47)] [[.str w1.s, .int .i64 n52]] ?_ fun zz hs => ?_
                · refine st ?_
                  simp [q54, q55]
                refine blk_n ?_
                refine seq_le ?_ hs
                refine cut 105 1 [(0, .mptr 0 0), (4, .int .i64 at2), (5, .int .i64 n47), (104, .bool (eqI n47 0))] [[.str w1.s, .int .i64 n52]] ?_ ?_
                · refine st ?_
                  simp
                rcases sp l34 with ⟨g57, l34⟩ | ⟨g57, l34⟩
                · have c58 := eqT g57
                  refine condT rfl g57 ?_
                  refine awp_exit ?_
                  refine exit_blk_ne (by decide) ?_
                  rcases o33 with o33 | o32
                  · cases l34
                  have q59 := Sum.inr.inj (Option.some.inj l34)
                  replace l5 := elimR l5
                  have q59 := q59.symm
                  refine exit_seq ?_
                  refine exit_blk ?_
                  refine blk_n ?_
                  refine blk_n ?_
                  exact ⟨(k7, o32), le_mkS (by simp [q59]), l5, by simp⟩
                · have c60 := eqF g57
                  refine condF rfl g57 ?_
                  refine awp_skip ?_
                  refine blk_n ?_
                  exact ⟨(k36, n52, n47), le_mkS (by simp []), l34, by simp⟩
              · refine condF rfl g46 ?_
                obtain ⟨v61, q62, l34⟩ := bs l34
                refine cut 105 1 [(0, .mptr 0 0), (4, .int .i64 at2), (5, .int .i64 i31), (83, .bool v61)] [[.str w1.s, .int .i64 at30]] ?_ ?_
                · refine awp_region_draw [] mixed (n := 105) rfl (by decide) ?_
                  simp [q42, q43]
                  have r87 := strings_HasPrefix_ok s40 [42, 41] v61 q62
                  try simp [q42, q43] at r87
                  refine callD r87 (by simp) rfl ?_
                  simp [q42, q43]
                rcases sp l34 with ⟨g63, l34⟩ | ⟨g63, l34⟩
                · refine condT rfl g63 ?_
                  obtain ⟨n64, q65, l34⟩ := bs l34
                  obtain ⟨q66, q67⟩ := chk_ok q65
                  try simp at q66
                  try simp at q67
                  have c68 := q66; simp only [Rng, inR] at c68
                  refine cut 105 1 [(0, .mptr 0 0), (4, .int .i64 at2), (5, .int .i64 n64)] [[.str w1.s, .int .i64 at30]] ?_ ?_
                  · refine st ?_
                    simp [q66, q67]
                  obtain ⟨n69, q70, l34⟩ := bs l34
                  obtain ⟨q71, q72⟩ := chk_ok q70
                  try simp at q71
                  try simp at q72
                  have c73 := q71; simp only [Rng, inR] at c73
                  refine last 105 1 [(0, .mptr 0 0), (4, .int .i64 at2), (5, .int .i64 n64)] [[.str w1.s, .int .i64 n69]] ?_ fun zz hs => ?_
                  · refine st ?_
                    simp [q71, q72]
                  refine blk_n ?_
                  refine seq_le ?_ hs
                  refine cut 105 1 [(0, .mptr 0 0), (4, .int .i64 at2), (5, .int .i64 n64), (104, .bool (eqI n64 0))] [[.str w1.s, .int .i64 n69]] ?_ ?_
                  · refine st ?_
                    simp
                  rcases sp l34 with ⟨g74, l34⟩ | ⟨g74, l34⟩
                  · have c75 := eqT g74
                    refine condT rfl g74 ?_
                    refine awp_exit ?_
                    refine exit_blk_ne (by decide) ?_
                    rcases o33 with o33 | o32
                    · cases l34
                    have q76 := Sum.inr.inj (Option.some.inj l34)
                    replace l5 := elimR l5
                    have q76 := q76.symm
                    refine exit_seq ?_
                    refine exit_blk ?_
                    refine blk_n ?_
                    refine blk_n ?_
                    exact ⟨(k7, o32), le_mkS (by simp [q76]), l5, by simp⟩
                  · have c77 := eqF g74
                    refine condF rfl g74 ?_
                    refine awp_skip ?_
                    refine blk_n ?_
                    exact ⟨(k36, n69, n64), le_mkS (by simp []), l34, by simp⟩
                · refine condF rfl g63 ?_
                  obtain ⟨n78, q79, l34⟩ := bs l34
                  obtain ⟨q80, q81⟩ := chk_ok q79
                  try simp at q80
                  try simp at q81
                  have c82 := q80; simp only [Rng, inR] at c82
                  refine last 105 1 [(0, .mptr 0 0), (4, .int .i64 at2), (5, .int .i64 i31)] [[.str w1.s, .int .i64 n78]] ?_ fun zz hs => ?_
                  · refine st ?_
                    simp [q80, q81]
                  refine blk_n ?_
                  refine seq_le ?_ hs
                  refine cut 105 1 [(0, .mptr 0 0), (4, .int .i64 at2), (5, .int .i64 i31), (104, .bool (eqI i31 0))] [[.str w1.s, .int .i64 n78]] ?_ ?_
                  · refine st ?_
                    simp
                  rcases sp l34 with ⟨g83, l34⟩ | ⟨g83, l34⟩
                  · have c84 := eqT g83
                    refine condT rfl g83 ?_
                    refine awp_exit ?_
                    refine exit_blk_ne (by decide) ?_
                    rcases o33 with o33 | o32
                    · cases l34
                    have q85 := Sum.inr.inj (Option.some.inj l34)
                    replace l5 := elimR l5
                    have q85 := q85.symm
                    refine exit_seq ?_
                    refine exit_blk ?_
                    refine blk_n ?_
                    refine blk_n ?_
                    exact ⟨(k7, o32), le_mkS (by simp [q85]), l5, by simp⟩
                  · have c86 := eqF g83
                    refine condF rfl g83 ?_
                    refine awp_skip ?_
                    refine blk_n ?_
                    exact ⟨(k36, n78, i31), le_mkS (by simp []), l34, by simp⟩
        · refine condF rfl g29 ?_
          refine cut 105 1 [(2, .int .i64 (-1))] [[.str w1.s, .int .i64 at2]] ?_ ?_
          · refine st ?_
            simp
          refine awp_ret ?_
          refine ret_blk ?_
          refine ret_blk ?_
          replace h := retL l5 h
          refine ret_seq ?_
          refine ret_blk ?_
          refine ret_seq ?_
          obtain rfl := Option.some.inj h
          simp
    · have c91 := ltF g8
      refine condF rfl g8 ?_
      refine factCS 0 0 rfl rfl fun f92 => ?_
      refine awp_exit ?_
      refine exit_seq ?_
      rcases o4 with o4 | o3
      · cases l5
      have q93 := Sum.inr.inj (Option.some.inj l5)
      replace h := elimR h
      have q93 := q93.symm
      refine exit_seq ?_
      refine exit_blk ?_
      refine seq_le (t := mkS 105 1 [] [[.str w1.s, .int .i64 o3]]) ?_ (le_mkS (by simp [q93]))
      refine cut 105 1 [(2, .int .i64 (-1))] [[.str w1.s, .int .i64 o3]] ?_ ?_
      · refine st ?_
        simp
      refine awp_ret ?_
      obtain rfl := Option.some.inj h
      simp
end Go.Proofs.Ythbjlmoaceaeeaa
set_option linter.unusedVariables false
set_option linter.unusedSimpArgs false
set_option maxRecDepth 100000
set_option maxHeartbeats 1000000
namespace Go.Proofs.Ythbjlmoaceaeeaa
open Go Go.Abs
theorem bytealg_LastIndexByteString_ok (fuel : Nat) (s1 : (List UInt8)) (c2 : UInt8) (r : Int) (h : M.bytealg_LastIndexByteString fuel s1 c2 = some r) : Pure Try.prog 136 [.str s1, .int .u8 (c2.toNat : Int)] (.int .i64 r) := by
  rw [M.bytealg_LastIndexByteString] at h
  refine pure_of_body Try.func136 (by rfl) (by rfl) (by simp) (by simp) (by simp) ?_
  refine cut 19 0 [(0, .str s1), (1, .int .u8 (c2.toNat : Int))] [] ?_ ?_
  · refine st ?_
    simp
  refine awp_seq ?_
  obtain ⟨n3, q4, h⟩ := bs h
  obtain ⟨q5, q6⟩ := chk_ok q4
  try simp at q5
  try simp at q6
  have c7 := q5; simp only [Rng, inR] at c7
  refine cut 19 0 [(0, .str s1), (1, .int .u8 (c2.toNat : Int)), (5, .int .i64 n3)] [] ?_ ?_
  · refine st ?_
    simp [q5, q6]
  refine awp_block ?_
  obtain ⟨o10, l11, h⟩ := bs h
  refine awp_inv (fun p : Nat × Int => mkS 19 0 [(0, .str s1), (1, .int .u8 (c2.toNat : Int)), (5, .int .i64 p.2)] []) (fun p => M.bytealg_LastIndexByteString_l1 s1 c2 p.1 p.2 = some o10 ∧ (-1) ≤ p.2 ∧ p.2 ≤ 9223372036854775807) (fun p => p.1) (fuel, n3) ⟨l11, by (try dsimp only); omega, by (try dsimp only); omega⟩ (le_mkS (by simp)) ?_
  rintro ⟨k14, i8⟩ ⟨l11, c12, c13⟩
  dsimp only at l11 c12 c13 ⊢
  cases k14 with
  | zero =>
    rw [M.bytealg_LastIndexByteString_l1] at l11; cases l11
  | succ k15 =>
    rw [M.bytealg_LastIndexByteString_l1] at l11
    refine awp_seq ?_
    refine cut 19 0 [(0, .str s1), (1, .int .u8 (c2.toNat : Int)), (5, .int .i64 i8), (10, .bool (leI 0 i8))] [] ?_ ?_
    · refine st ?_
      simp
    rcases sp l11 with ⟨g16, l11⟩ | ⟨g16, l11⟩
    · have c17 := leT g16
      refine condT rfl g16 ?_
      refine awp_skip ?_
      refine seq_eq ?_
      refine awp_seq ?_
      refine awp_block ?_
      obtain ⟨c18, q19, l11⟩ := bs l11
      obtain ⟨q20, q21⟩ := idx_ok q19
      refine cut 19 0 [(0, .str s1), (1, .int .u8 (c2.toNat : Int)), (5, .int .i64 i8), (17, .bool (eqI (c18.toNat : Int) (c2.toNat : Int)))] [] ?_ ?_
      · refine st ?_
        simp [q20, q21]
      rcases sp l11 with ⟨g22, l11⟩ | ⟨g22, l11⟩
      · have c23 := eqT g22
        refine condT rfl g22 ?_
        refine cut 19 0 [(4, .int .i64 i8)] [] ?_ ?_
        · refine st ?_
          simp
        refine awp_ret ?_
        refine ret_blk ?_
        refine ret_seq ?_
        replace h := retL l11 h
        refine ret_seq ?_
        refine ret_blk ?_
        refine ret_seq ?_
        obtain rfl := Option.some.inj h
        simp
      · have c24 := eqF g22
        refine condF rfl g22 ?_
        refine awp_skip ?_
        refine blk_n ?_
        refine seq_eq ?_
        have q25 : Rng .i64 (i8 - 1) := by simp only [Rng, inR]; omega
        try simp at q25
        refine last 19 0 [(0, .str s1), (1, .int .u8 (c2.toNat : Int)), (5, .int .i64 (i8 - 1))] [] ?_ fun zz hs => ?_
        · refine st ?_
          simp [q25]
        exact ⟨(k15, i8 - 1), hs, ⟨l11, by (try dsimp only); omega, by (try dsimp only); omega⟩, by simp⟩
    · have c26 := leF g16
      refine condF rfl g16 ?_
      refine awp_exit ?_
      refine exit_seq ?_
      rcases o10 with o10 | o9
      · cases l11
      have q27 := Sum.inr.inj (Option.some.inj l11)
      replace h := elimR h
      refine exit_seq ?_
      refine exit_blk ?_
      refine seq_le (t := mkS 19 0 [] []) ?_ (le_mkS (by simp []))
      refine cut 19 0 [(4, .int .i64 (-1))] [] ?_ ?_
      · refine st ?_
        simp
      refine awp_ret ?_
      obtain rfl := Option.some.inj h
      simp
end Go.Proofs.Ythbjlmoaceaeeaa
set_option linter.unusedVariables false
set_option linter.unusedSimpArgs false
set_option maxRecDepth 100000
set_option maxHeartbeats 1000000
namespace Go.Proofs.Ythbjlmoaceaeeaa
open Go Go.Abs
theorem strings_LastIndexByte_ok (fuel : Nat) (s1 : (List UInt8)) (c2 : UInt8) (r : Int) (h : M.strings_LastIndexByte fuel s1 c2 = some r) : Pure Try.prog 102 [.str s1, .int .u8 (c2.toNat : Int)] (.int .i64 r) := by
  rw [M.strings_LastIndexByte] at h
  refine pure_of_body Try.func102 (by rfl) (by rfl) (by simp) (by simp) (by simp) ?_
  refine cut 8 0 [(0, .str s1), (1, .int .u8 (c2.toNat : Int))] [] ?_ ?_
  · refine st ?_
    simp
  obtain ⟨v3, q4, h⟩ := bs h
  refine cut 8 0 [(4, .int .i64 v3)] [] ?_ ?_
  · refine st ?_
    simp
    have r5 := bytealg_LastIndexByteString_ok fuel s1 c2 v3 q4
    try simp [] at r5
    refine callPure r5 (by simp) rfl ?_
    simp
  refine awp_ret ?_
  obtain rfl := Option.some.inj h
  simp
end Go.Proofs.Ythbjlmoaceaeeaa
set_option linter.unusedVariables false
set_option linter.unusedSimpArgs false
set_option maxRecDepth 100000
set_option maxHeartbeats 1000000
namespace Go.Proofs.Ythbjlmoaceaeeaa
open Go Go.Abs
theorem lexer_place_ok (fuel : Nat) (s1 : (List UInt8)) (at2 : Int) (r : Api.Pos) (h : M.lexer_place fuel s1 at2 = some r) : Pure Try.prog 62 [.str s1, .int .i64 at2] (.agg [.int .i64 r.Line, .int .i64 r.Column]) := by
  rw [M.lexer_place] at h
  refine pure_of_body Try.func62 (by rfl) (by rfl) (by simp) (by simp) (by simp) ?_
  refine cut 17 0 [(0, .str s1), (1, .int .i64 at2), (4, .mptr 0 0)] [[.int .i64 0, .int .i64 0]] ?_ ?_
  · refine st ?_
    simp
  obtain ⟨s3, q4, h⟩ := bs h
  obtain ⟨q5, q6⟩ := subC_ok q4
  try simp at q5
  try simp at q6
  refine cut 17 0 [(1, .int .i64 at2), (4, .mptr 0 0), (5, .str s3)] [[.int .i64 0, .int .i64 0]] ?_ ?_
  · refine st ?_
    simp [q5, q6]
  obtain ⟨v7, q8, h⟩ := bs h
  obtain ⟨n9, q10, h⟩ := bs h
  obtain ⟨q11, q12⟩ := chk_ok q10
  try simp at q11
  try simp at q12
  have c13 := q11; simp only [Rng, inR] at c13
  obtain ⟨v14, q15, h⟩ := bs h
  obtain ⟨n16, q17, h⟩ := bs h
  obtain ⟨q18, q19⟩ := chk_ok q17
  try simp at q18
  try simp at q19
  have c20 := q18; simp only [Rng, inR] at c20
  refine cut 17 0 [(4, .mptr 0 0)] [[.int .i64 n9, .int .i64 n16]] ?_ ?_
  · refine st ?_
    simp [q11, q12, q18, q19]
    have r21 := strings_Count_ok s3 [10] v7 q8
    try simp [q11, q12, q18, q19] at r21
    refine callPure r21 (by simp) rfl ?_
    simp [q11, q12, q18, q19]
    have r22 := strings_LastIndexByte_ok fuel s3 (10 : UInt8) v14 q15
    try simp [q11, q12, q18, q19] at r22
    refine callPure r22 (by simp) rfl ?_
    simp [q11, q12, q18, q19]
  refine awp_ret ?_
  obtain rfl := Option.some.inj h
  simp
end Go.Proofs.Ythbjlmoaceaeeaa
set_option linter.unusedVariables false
set_option linter.unusedSimpArgs false
set_option maxRecDepth 100000
set_option maxHeartbeats 1000000
namespace Go.Proofs.Ythbjlmoaceaeeaa
open Go Go.Abs
theorem lexer_small_ok (c1 : UInt8) (r : Bool) (h : M.lexer_small c1 = some r) : Pure Try.prog 105 [.int .u8 (c1.toNat : Int)] (.bool r) := by
  rw [M.lexer_small] at h
  refine pure_of_body Try.func105 (by rfl) (by rfl) (by simp) (by simp) (by simp) ?_
  refine cut 9 0 [(0, .int .u8 (c1.toNat : Int))] [] ?_ ?_
  · refine st ?_
    simp
  refine cut 9 0 [(2, .bool ((leI 97 (c1.toNat : Int)) && (leI (c1.toNat : Int) 122)))] [] ?_ ?_
  · rcases tf (leI 97 (c1.toNat : Int)) with g2 | g2
    · have c3 := leT g2
      refine st ?_
      simp [g2]
    · have c4 := leF g2
      refine st ?_
      simp [g2]
  refine awp_ret ?_
  obtain rfl := Option.some.inj h
  simp
end Go.Proofs.Ythbjlmoaceaeeaa
set_option linter.unusedVariables false
set_option linter.unusedSimpArgs false
set_option maxRecDepth 100000
set_option maxHeartbeats 1000000
namespace Go.Proofs.Ythbjlmoaceaeeaa
open Go Go.Abs
theorem lexer_capital_ok (c1 : UInt8) (r : Bool) (h : M.lexer_capital c1 = some r) : Pure Try.prog 106 [.int .u8 (c1.toNat : Int)] (.bool r) := by
  rw [M.lexer_capital] at h
  refine pure_of_body Try.func106 (by rfl) (by rfl) (by simp) (by simp) (by simp) ?_
  refine cut 9 0 [(0, .int .u8 (c1.toNat : Int))] [] ?_ ?_
  · refine st ?_
    simp
  refine cut 9 0 [(2, .bool ((leI 65 (c1.toNat : Int)) && (leI (c1.toNat : Int) 90)))] [] ?_ ?_
  · rcases tf (leI 65 (c1.toNat : Int)) with g2 | g2
    · have c3 := leT g2
      refine st ?_
      simp [g2]
    · have c4 := leF g2
      refine st ?_
      simp [g2]
  refine awp_ret ?_
  obtain rfl := Option.some.inj h
  simp
end Go.Proofs.Ythbjlmoaceaeeaa
set_option linter.unusedVariables false
set_option linter.unusedSimpArgs false
set_option maxRecDepth 100000
set_option maxHeartbeats 1000000
namespace Go.Proofs.Ythbjlmoaceaeeaa
open Go Go.Abs
theorem lexer_digit_ok (c1 : UInt8) (r : Bool) (h : M.lexer_digit c1 = some r) : Pure Try.prog 110 [.int .u8 (c1.toNat : Int)] (.bool r) := by
  rw [M.lexer_digit] at h
  refine pure_of_body Try.func110 (by rfl) (by rfl) (by simp) (by simp) (by simp) ?_
  refine cut 9 0 [(0, .int .u8 (c1.toNat : Int))] [] ?_ ?_
  · refine st ?_
    simp
  refine cut 9 0 [(2, .bool ((leI 48 (c1.toNat : Int)) && (leI (c1.toNat : Int) 57)))] [] ?_ ?_
  · rcases tf (leI 48 (c1.toNat : Int)) with g2 | g2
    · have c3 := leT g2
      refine st ?_
      simp [g2]
    · have c4 := leF g2
      refine st ?_
      simp [g2]
  refine awp_ret ?_
  obtain rfl := Option.some.inj h
  simp
end Go.Proofs.Ythbjlmoaceaeeaa
set_option linter.unusedVariables false
set_option linter.unusedSimpArgs false
set_option maxRecDepth 100000
set_option maxHeartbeats 1000000
namespace Go.Proofs.Ythbjlmoaceaeeaa
open Go Go.Abs
theorem lexer_inner_ok (c1 : UInt8) (r : Bool) (h : M.lexer_inner c1 = some r) : Pure Try.prog 108 [.int .u8 (c1.toNat : Int)] (.bool r) := by
  rw [M.lexer_inner] at h
  refine pure_of_body Try.func108 (by rfl) (by rfl) (by simp) (by simp) (by simp) ?_
  refine cut 17 0 [(0, .int .u8 (c1.toNat : Int))] [] ?_ ?_
  · refine st ?_
    simp
  obtain ⟨b11, q12, h⟩ := bs h
  refine cut 17 0 [(2, .bool b11)] [] ?_ ?_
  · obtain ⟨v2, q3, q12⟩ := bs q12
    rcases sp q12 with ⟨g4, q12⟩ | ⟨g4, q12⟩
    · obtain rfl := Option.some.inj q12
      refine st ?_
      simp [g4]
      have r13 := lexer_small_ok c1 v2 q3
      try simp [g4] at r13
      refine callPure r13 (by simp) rfl ?_
      simp [g4]
    · obtain ⟨v5, q6, q12⟩ := bs q12
      rcases sp q12 with ⟨g7, q12⟩ | ⟨g7, q12⟩
      · obtain rfl := Option.some.inj q12
        refine st ?_
        simp [g4, g7]
        have r14 := lexer_small_ok c1 v2 q3
        try simp [g4, g7] at r14
        refine callPure r14 (by simp) rfl ?_
        simp [g4, g7]
        have r15 := lexer_capital_ok c1 v5 q6
        try simp [g4, g7] at r15
        refine callPure r15 (by simp) rfl ?_
        simp [g4, g7]
      · obtain ⟨v8, q9, q12⟩ := bs q12
        rcases sp q12 with ⟨g10, q12⟩ | ⟨g10, q12⟩
        · obtain rfl := Option.some.inj q12
          refine st ?_
          simp [g4, g7, g10]
          have r16 := lexer_small_ok c1 v2 q3
          try simp [g4, g7, g10] at r16
          refine callPure r16 (by simp) rfl ?_
          simp [g4, g7, g10]
          have r17 := lexer_capital_ok c1 v5 q6
          try simp [g4, g7, g10] at r17
          refine callPure r17 (by simp) rfl ?_
          simp [g4, g7, g10]
          have r18 := lexer_digit_ok c1 v8 q9
          try simp [g4, g7, g10] at r18
          refine callPure r18 (by simp) rfl ?_
          simp [g4, g7, g10]
        · obtain rfl := Option.some.inj q12
          refine st ?_
          simp [g4, g7, g10]
          have r19 := lexer_small_ok c1 v2 q3
          try simp [g4, g7, g10] at r19
          refine callPure r19 (by simp) rfl ?_
          simp [g4, g7, g10]
          have r20 := lexer_capital_ok c1 v5 q6
          try simp [g4, g7, g10] at r20
          refine callPure r20 (by simp) rfl ?_
          simp [g4, g7, g10]
          have r21 := lexer_digit_ok c1 v8 q9
          try simp [g4, g7, g10] at r21
          refine callPure r21 (by simp) rfl ?_
          simp [g4, g7, g10]
  refine awp_ret ?_
  obtain rfl := Option.some.inj h
  simp
end Go.Proofs.Ythbjlmoaceaeeaa
set_option linter.unusedVariables false
set_option linter.unusedSimpArgs false
set_option maxRecDepth 100000
set_option maxHeartbeats 1000000
namespace Go.Proofs.Ythbjlmoaceaeeaa
open Go Go.Abs
theorem lexer_length_inner_ok (fuel : Nat) (s1 : (List UInt8)) (r : Int) (h : M.lexer_length_inner fuel s1 = some r) : Pure Try.prog 107 [.str s1, .fn (.func 108) [] []] (.int .i64 r) := by
  rw [M.lexer_length_inner] at h
  refine pure_of_body Try.func107 (by rfl) (by rfl) (by simp) (by simp) (by simp) ?_
  refine cut 20 0 [(0, .str s1), (1, .fn (.func 108) [] [])] [] ?_ ?_
  · refine st ?_
    simp
  refine cut 20 0 [(0, .str s1), (1, .fn (.func 108) [] []), (5, .int .i64 0)] [] ?_ ?_
  · refine st ?_
    simp
  refine awp_seq ?_
  refine awp_block ?_
  obtain ⟨o3, l4, h⟩ := bs h
  refine awp_inv (fun p : Nat × Int => mkS 20 0 [(0, .str s1), (1, .fn (.func 108) [] []), (5, .int .i64 p.2)] []) (fun p => M.lexer_length_inner_l1 s1 p.1 p.2 = some o3 ∧ 0 ≤ p.2) (fun p => p.1) (fuel, 0) ⟨l4, by (try dsimp only); omega⟩ (le_mkS (by simp)) ?_
  rintro ⟨k6, n2⟩ ⟨l4, c5⟩
  dsimp only at l4 c5 ⊢
  cases k6 with
  | zero =>
    rw [M.lexer_length_inner_l1] at l4; cases l4
  | succ k7 =>
    rw [M.lexer_length_inner_l1] at l4
    refine awp_seq ?_
    obtain ⟨b19, q20, l4⟩ := bs l4
    refine cut 20 0 [(0, .str s1), (1, .fn (.func 108) [] []), (5, .int .i64 n2), (16, .bool b19)] [] ?_ ?_
    · rcases sp q20 with ⟨g8, q20⟩ | ⟨g8, q20⟩
      · have c9 := ltT g8
        refine factS 0 rfl fun f10 => ?_
        obtain ⟨c11, q12, q20⟩ := bs q20
        obtain ⟨q13, q14⟩ := idx_ok q12
        obtain ⟨v15, q16, q20⟩ := bs q20
        obtain rfl := Option.some.inj q20
        refine st ?_
        simp [g8, q13, q14]
        have r28 := lexer_inner_ok c11 v15 q16
        try simp [g8, q13, q14] at r28
        refine callPure r28 (by simp) rfl ?_
        simp [g8, q13, q14]
      · have c17 := ltF g8
        refine factS 0 rfl fun f18 => ?_
        obtain rfl := Option.some.inj q20
        refine st ?_
        simp [g8]
    rcases sp l4 with ⟨g21, l4⟩ | ⟨g21, l4⟩
    · refine condT rfl g21 ?_
      refine awp_skip ?_
      refine seq_eq ?_
      refine awp_block ?_
      obtain ⟨n22, q23, l4⟩ := bs l4
      obtain ⟨q24, q25⟩ := chk_ok q23
      try simp at q24
      try simp at q25
      have c26 := q24; simp only [Rng, inR] at c26
      refine last 20 0 [(0, .str s1), (1, .fn (.func 108) [] []), (5, .int .i64 n22)] [] ?_ fun zz hs => ?_
      · refine st ?_
        simp [q24, q25]
      refine blk_n ?_
      exact ⟨(k7, n22), hs, ⟨l4, by (try dsimp only); omega⟩, by simp⟩
    · refine condF rfl g21 ?_
      refine awp_exit ?_
      refine exit_seq ?_
      have q27 := Option.some.inj l4
      have q27 := q27.symm
      refine exit_seq ?_
      refine exit_blk ?_
      refine seq_le (t := mkS 20 0 [(5, .int .i64 o3)] []) ?_ (le_mkS (by simp [q27]))
      refine cut 20 0 [(4, .int .i64 o3)] [] ?_ ?_
      · refine st ?_
        simp
      refine awp_ret ?_
      obtain rfl := Option.some.inj h
      simp
end Go.Proofs.Ythbjlmoaceaeeaa
set_option linter.unusedVariables false
set_option linter.unusedSimpArgs false
set_option maxRecDepth 100000
set_option maxHeartbeats 1000000
namespace Go.Proofs.Ythbjlmoaceaeeaa
open Go Go.Abs
theorem lexer_Keyword_ok (s1 : (List UInt8)) (r : Bool) (h : M.lexer_Keyword s1 = some r) : Pure Try.prog 109 [.str s1] (.bool r) := by
  rw [M.lexer_Keyword] at h
  refine pure_of_body Try.func109 (by rfl) (by rfl) (by simp) (by simp) (by simp) ?_
  refine cut 36 0 [(0, .str s1)] [] ?_ ?_
  · refine st ?_
    simp
  refine awp_seq ?_
  refine cut 36 0 [(3, .str s1)] [] ?_ ?_
  · refine st ?_
    simp
  refine awp_block ?_
  refine awp_seq ?_
  refine cut 36 0 [(3, .str s1), (4, .bool (eqS s1 [97, 110, 100, 97, 108, 115, 111]))] [] ?_ ?_
  · refine st ?_
    simp
  rcases sp h with ⟨g2, h⟩ | ⟨g2, h⟩
  · refine condT rfl g2 ?_
    refine awp_skip ?_
    refine seq_eq ?_
    refine condT rfl (by simp [g2]) ?_
    refine cut 36 0 [(2, .bool true)] [] ?_ ?_
    · refine st ?_
      simp
    refine awp_ret ?_
    refine ret_blk ?_
    refine ret_seq ?_
    obtain rfl := Option.some.inj h
    simp
  · refine condF rfl g2 ?_
    refine cut 36 0 [(3, .str s1), (4, .bool (eqS s1 [99, 97, 115, 101]))] [] ?_ ?_
    · refine st ?_
      simp
    rcases sp h with ⟨g3, h⟩ | ⟨g3, h⟩
    · refine condT rfl g3 ?_
      refine awp_skip ?_
      refine seq_eq ?_
      refine condT rfl (by simp [g3]) ?_
      refine cut 36 0 [(2, .bool true)] [] ?_ ?_
      · refine st ?_
        simp
      refine awp_ret ?_
      refine ret_blk ?_
      refine ret_seq ?_
      obtain rfl := Option.some.inj h
      simp
    · refine condF rfl g3 ?_
      refine cut 36 0 [(3, .str s1), (4, .bool (eqS s1 [100, 97, 116, 97]))] [] ?_ ?_
      · refine st ?_
        simp
      rcases sp h with ⟨g4, h⟩ | ⟨g4, h⟩
      · refine condT rfl g4 ?_
        refine awp_skip ?_
        refine seq_eq ?_
        refine condT rfl (by simp [g4]) ?_
        refine cut 36 0 [(2, .bool true)] [] ?_ ?_
        · refine st ?_
          simp
        refine awp_ret ?_
        refine ret_blk ?_
        refine ret_seq ?_
        obtain rfl := Option.some.inj h
        simp
      · refine condF rfl g4 ?_
        refine cut 36 0 [(3, .str s1), (4, .bool (eqS s1 [100, 105, 118]))] [] ?_ ?_
        · refine st ?_
          simp
        rcases sp h with ⟨g5, h⟩ | ⟨g5, h⟩
        · refine condT rfl g5 ?_
          refine awp_skip ?_
          refine seq_eq ?_
          refine condT rfl (by simp [g5]) ?_
          refine cut 36 0 [(2, .bool true)] [] ?_ ?_
          · refine st ?_
            simp
          refine awp_ret ?_
          refine ret_blk ?_
          refine ret_seq ?_
          obtain rfl := Option.some.inj h
          simp
        · refine condF rfl g5 ?_
          refine cut 36 0 [(3, .str s1), (4, .bool (eqS s1 [101, 108, 115, 101]))] [] ?_ ?_
          · refine st ?_
            simp
          rcases sp h with ⟨g6, h⟩ | ⟨g6, h⟩
          · refine condT rfl g6 ?_
            refine awp_skip ?_
            refine seq_eq ?_
            refine condT rfl (by simp [g6]) ?_
            refine cut 36 0 [(2, .bool true)] [] ?_ ?_
            · refine st ?_
              simp
            refine awp_ret ?_
            refine ret_blk ?_
            refine ret_seq ?_
            obtain rfl := Option.some.inj h
            simp
          · refine condF rfl g6 ?_
            refine cut 36 0 [(3, .str s1), (4, .bool (eqS s1 [101, 110, 100]))] [] ?_ ?_
            · refine st ?_
              simp
            rcases sp h with ⟨g7, h⟩ | ⟨g7, h⟩
            · refine condT rfl g7 ?_
              refine awp_skip ?_
              refine seq_eq ?_
              refine condT rfl (by simp [g7]) ?_
              refine cut 36 0 [(2, .bool true)] [] ?_ ?_
              · refine st ?_
                simp
              refine awp_ret ?_
              refine ret_blk ?_
              refine ret_seq ?_
              obtain rfl := Option.some.inj h
              simp
            · refine condF rfl g7 ?_
              refine cut 36 0 [(3, .str s1), (4, .bool (eqS s1 [102, 110]))] [] ?_ ?_
              · refine st ?_
                simp
              rcases sp h with ⟨g8, h⟩ | ⟨g8, h⟩
              · refine condT rfl g8 ?_
                refine awp_skip ?_
                refine seq_eq ?_
                refine condT rfl (by simp [g8]) ?_
                refine cut 36 0 [(2, .bool true)] [] ?_ ?_
                · refine st ?_
                  simp
                refine awp_ret ?_
                refine ret_blk ?_
                refine ret_seq ?_
                obtain rfl := Option.some.inj h
                simp
              · refine condF rfl g8 ?_
                refine cut 36 0 [(3, .str s1), (4, .bool (eqS s1 [102, 117, 110]))] [] ?_ ?_
                · refine st ?_
                  simp
                rcases sp h with ⟨g9, h⟩ | ⟨g9, h⟩
                · refine condT rfl g9 ?_
                  refine awp_skip ?_
                  refine seq_eq ?_
                  refine condT rfl (by simp [g9]) ?_
                  refine cut 36 0 [(2, .bool true)] [] ?_ ?_
                  · refine st ?_
                    simp
                  refine awp_ret ?_
                  refine ret_blk ?_
                  refine ret_seq ?_
                  obtain rfl := Option.some.inj h
                  simp
                · refine condF rfl g9 ?_
                  refine cut 36 0 [(3, .str s1), (4, .bool (eqS s1 [102, 117, 110, 99, 116, 111, 114]))] [] ?_ ?_
                  · refine st ?_
                    simp
                  rcases sp h with ⟨g10, h⟩ | ⟨g10, h⟩
                  · refine condT rfl g10 ?_
                    refine awp_skip ?_
                    refine seq_eq ?_
                    refine condT rfl (by simp [g10]) ?_
                    refine cut 36 0 [(2, .bool true)] [] ?_ ?_
                    · refine st ?_
                      simp
                    refine awp_ret ?_
                    refine ret_blk ?_
                    refine ret_seq ?_
                    obtain rfl := Option.some.inj h
                    simp
                  · refine condF rfl g10 ?_
                    refine cut 36 0 [(3, .str s1), (4, .bool (eqS s1 [103, 101, 110, 101, 114, 97, 116, 105, 118, 101]))] [] ?_ ?_
                    · refine st ?_
                      simp
                    rcases sp h with ⟨g11, h⟩ | ⟨g11, h⟩
                    · refine condT rfl g11 ?_
                      refine awp_skip ?_
                      refine seq_eq ?_
                      refine condT rfl (by simp [g11]) ?_
                      refine cut 36 0 [(2, .bool true)] [] ?_ ?_
                      · refine st ?_
                        simp
                      refine awp_ret ?_
                      refine ret_blk ?_
                      refine ret_seq ?_
                      obtain rfl := Option.some.inj h
                      simp
                    · refine condF rfl g11 ?_
                      refine cut 36 0 [(3, .str s1), (4, .bool (eqS s1 [105, 102]))] [] ?_ ?_
                      · refine st ?_
                        simp
                      rcases sp h with ⟨g12, h⟩ | ⟨g12, h⟩
                      · refine condT rfl g12 ?_
                        refine awp_skip ?_
                        refine seq_eq ?_
                        refine condT rfl (by simp [g12]) ?_
                        refine cut 36 0 [(2, .bool true)] [] ?_ ?_
                        · refine st ?_
                          simp
                        refine awp_ret ?_
                        refine ret_blk ?_
                        refine ret_seq ?_
                        obtain rfl := Option.some.inj h
                        simp
                      · refine condF rfl g12 ?_
                        refine cut 36 0 [(3, .str s1), (4, .bool (eqS s1 [105, 109, 112, 111, 114, 116]))] [] ?_ ?_
                        · refine st ?_
                          simp
                        rcases sp h with ⟨g13, h⟩ | ⟨g13, h⟩
                        · refine condT rfl g13 ?_
                          refine awp_skip ?_
                          refine seq_eq ?_
                          refine condT rfl (by simp [g13]) ?_
                          refine cut 36 0 [(2, .bool true)] [] ?_ ?_
                          · refine st ?_
                            simp
                          refine awp_ret ?_
                          refine ret_blk ?_
                          refine ret_seq ?_
                          obtain rfl := Option.some.inj h
                          simp
                        · refine condF rfl g13 ?_
                          refine cut 36 0 [(3, .str s1), (4, .bool (eqS s1 [105, 110]))] [] ?_ ?_
                          · refine st ?_
                            simp
                          rcases sp h with ⟨g14, h⟩ | ⟨g14, h⟩
                          · refine condT rfl g14 ?_
                            refine awp_skip ?_
                            refine seq_eq ?_
                            refine condT rfl (by simp [g14]) ?_
                            refine cut 36 0 [(2, .bool true)] [] ?_ ?_
                            · refine st ?_
                              simp
                            refine awp_ret ?_
                            refine ret_blk ?_
                            refine ret_seq ?_
                            obtain rfl := Option.some.inj h
                            simp
                          · refine condF rfl g14 ?_
                            refine cut 36 0 [(3, .str s1), (4, .bool (eqS s1 [105, 110, 99, 108, 117, 100, 101]))] [] ?_ ?_
                            · refine st ?_
                              simp
                            rcases sp h with ⟨g15, h⟩ | ⟨g15, h⟩
                            · refine condT rfl g15 ?_
                              refine awp_skip ?_
                              refine seq_eq ?_
                              refine condT rfl (by simp [g15]) ?_
                              refine cut 36 0 [(2, .bool true)] [] ?_ ?_
                              · refine st ?_
                                simp
                              refine awp_ret ?_
                              refine ret_blk ?_
                              refine ret_seq ?_
                              obtain rfl := Option.some.inj h
                              simp
                            · refine condF rfl g15 ?_
                              refine cut 36 0 [(3, .str s1), (4, .bool (eqS s1 [108, 101, 116]))] [] ?_ ?_
                              · refine st ?_
                                simp
                              rcases sp h with ⟨g16, h⟩ | ⟨g16, h⟩
                              · refine condT rfl g16 ?_
                                refine awp_skip ?_
                                refine seq_eq ?_
                                refine condT rfl (by simp [g16]) ?_
                                refine cut 36 0 [(2, .bool true)] [] ?_ ?_
                                · refine st ?_
                                  simp
                                refine awp_ret ?_
                                refine ret_blk ?_
                                refine ret_seq ?_
                                obtain rfl := Option.some.inj h
                                simp
                              · refine condF rfl g16 ?_
                                refine cut 36 0 [(3, .str s1), (4, .bool (eqS s1 [109, 111, 100]))] [] ?_ ?_
                                · refine st ?_
                                  simp
                                rcases sp h with ⟨g17, h⟩ | ⟨g17, h⟩
                                · refine condT rfl g17 ?_
                                  refine awp_skip ?_
                                  refine seq_eq ?_
                                  refine condT rfl (by simp [g17]) ?_
                                  refine cut 36 0 [(2, .bool true)] [] ?_ ?_
                                  · refine st ?_
                                    simp
                                  refine awp_ret ?_
                                  refine ret_blk ?_
                                  refine ret_seq ?_
                                  obtain rfl := Option.some.inj h
                                  simp
                                · refine condF rfl g17 ?_
                                  refine cut 36 0 [(3, .str s1), (4, .bool (eqS s1 [109, 111, 100, 117, 108, 101]))] [] ?_ ?_
                                  · refine st ?_
                                    simp
                                  rcases sp h with ⟨g18, h⟩ | ⟨g18, h⟩
                                  · refine condT rfl g18 ?_
                                    refine awp_skip ?_
                                    refine seq_eq ?_
                                    refine condT rfl (by simp [g18]) ?_
                                    refine cut 36 0 [(2, .bool true)] [] ?_ ?_
                                    · refine st ?_
                                      simp
                                    refine awp_ret ?_
                                    refine ret_blk ?_
                                    refine ret_seq ?_
                                    obtain rfl := Option.some.inj h
                                    simp
                                  · refine condF rfl g18 ?_
                                    refine cut 36 0 [(3, .str s1), (4, .bool (eqS s1 [111, 102]))] [] ?_ ?_
                                    · refine st ?_
                                      simp
                                    rcases sp h with ⟨g19, h⟩ | ⟨g19, h⟩
                                    · refine condT rfl g19 ?_
                                      refine awp_skip ?_
                                      refine seq_eq ?_
                                      refine condT rfl (by simp [g19]) ?_
                                      refine cut 36 0 [(2, .bool true)] [] ?_ ?_
                                      · refine st ?_
                                        simp
                                      refine awp_ret ?_
                                      refine ret_blk ?_
                                      refine ret_seq ?_
                                      obtain rfl := Option.some.inj h
                                      simp
                                    · refine condF rfl g19 ?_
                                      refine cut 36 0 [(3, .str s1), (4, .bool (eqS s1 [111, 112, 101, 110]))] [] ?_ ?_
                                      · refine st ?_
                                        simp
                                      rcases sp h with ⟨g20, h⟩ | ⟨g20, h⟩
                                      · refine condT rfl g20 ?_
                                        refine awp_skip ?_
                                        refine seq_eq ?_
                                        refine condT rfl (by simp [g20]) ?_
                                        refine cut 36 0 [(2, .bool true)] [] ?_ ?_
                                        · refine st ?_
                                          simp
                                        refine awp_ret ?_
                                        refine ret_blk ?_
                                        refine ret_seq ?_
                                        obtain rfl := Option.some.inj h
                                        simp
                                      · refine condF rfl g20 ?_
                                        refine cut 36 0 [(3, .str s1), (4, .bool (eqS s1 [111, 114, 101, 108, 115, 101]))] [] ?_ ?_
                                        · refine st ?_
                                          simp
                                        rcases sp h with ⟨g21, h⟩ | ⟨g21, h⟩
                                        · refine condT rfl g21 ?_
                                          refine awp_skip ?_
                                          refine seq_eq ?_
                                          refine condT rfl (by simp [g21]) ?_
                                          refine cut 36 0 [(2, .bool true)] [] ?_ ?_
                                          · refine st ?_
                                            simp
                                          refine awp_ret ?_
                                          refine ret_blk ?_
                                          refine ret_seq ?_
                                          obtain rfl := Option.some.inj h
                                          simp
                                        · refine condF rfl g21 ?_
                                          refine cut 36 0 [(3, .str s1), (4, .bool (eqS s1 [112, 97, 99, 107]))] [] ?_ ?_
                                          · refine st ?_
                                            simp
                                          rcases sp h with ⟨g22, h⟩ | ⟨g22, h⟩
                                          · refine condT rfl g22 ?_
                                            refine awp_skip ?_
                                            refine seq_eq ?_
                                            refine condT rfl (by simp [g22]) ?_
                                            refine cut 36 0 [(2, .bool true)] [] ?_ ?_
                                            · refine st ?_
                                              simp
                                            refine awp_ret ?_
                                            refine ret_blk ?_
                                            refine ret_seq ?_
                                            obtain rfl := Option.some.inj h
                                            simp
                                          · refine condF rfl g22 ?_
                                            refine cut 36 0 [(3, .str s1), (4, .bool (eqS s1 [115, 104, 97, 114, 105, 110, 103]))] [] ?_ ?_
                                            · refine st ?_
                                              simp
                                            rcases sp h with ⟨g23, h⟩ | ⟨g23, h⟩
                                            · refine condT rfl g23 ?_
                                              refine awp_skip ?_
                                              refine seq_eq ?_
                                              refine condT rfl (by simp [g23]) ?_
                                              refine cut 36 0 [(2, .bool true)] [] ?_ ?_
                                              · refine st ?_
                                                simp
                                              refine awp_ret ?_
                                              refine ret_blk ?_
                                              refine ret_seq ?_
                                              obtain rfl := Option.some.inj h
                                              simp
                                            · refine condF rfl g23 ?_
                                              refine cut 36 0 [(3, .str s1), (4, .bool (eqS s1 [115, 105, 103]))] [] ?_ ?_
                                              · refine st ?_
                                                simp
                                              rcases sp h with ⟨g24, h⟩ | ⟨g24, h⟩
                                              · refine condT rfl g24 ?_
                                                refine awp_skip ?_
                                                refine seq_eq ?_
                                                refine condT rfl (by simp [g24]) ?_
                                                refine cut 36 0 [(2, .bool true)] [] ?_ ?_
                                                · refine st ?_
                                                  simp
                                                refine awp_ret ?_
                                                refine ret_blk ?_
                                                refine ret_seq ?_
                                                obtain rfl := Option.some.inj h
                                                simp
                                              · refine condF rfl g24 ?_
                                                refine cut 36 0 [(3, .str s1), (4, .bool (eqS s1 [115, 105, 103, 110, 97, 116, 117, 114, 101]))] [] ?_ ?_
                                                · refine st ?_
                                                  simp
                                                rcases sp h with ⟨g25, h⟩ | ⟨g25, h⟩
                                                · refine condT rfl g25 ?_
                                                  refine awp_skip ?_
                                                  refine seq_eq ?_
                                                  refine condT rfl (by simp [g25]) ?_
                                                  refine cut 36 0 [(2, .bool true)] [] ?_ ?_
                                                  · refine st ?_
                                                    simp
                                                  refine awp_ret ?_
                                                  refine ret_blk ?_
                                                  refine ret_seq ?_
                                                  obtain rfl := Option.some.inj h
                                                  simp
                                                · refine condF rfl g25 ?_
                                                  refine cut 36 0 [(3, .str s1), (4, .bool (eqS s1 [115, 116, 114, 117, 99, 116]))] [] ?_ ?_
                                                  · refine st ?_
                                                    simp
                                                  rcases sp h with ⟨g26, h⟩ | ⟨g26, h⟩
                                                  · refine condT rfl g26 ?_
                                                    refine awp_skip ?_
                                                    refine seq_eq ?_
                                                    refine condT rfl (by simp [g26]) ?_
                                                    refine cut 36 0 [(2, .bool true)] [] ?_ ?_
                                                    · refine st ?_
                                                      simp
                                                    refine awp_ret ?_
                                                    refine ret_blk ?_
                                                    refine ret_seq ?_
                                                    obtain rfl := Option.some.inj h
                                                    simp
                                                  · refine condF rfl g26 ?_
                                                    refine cut 36 0 [(3, .str s1), (4, .bool (eqS s1 [115, 116, 114, 117, 99, 116, 117, 114, 101]))] [] ?_ ?_
                                                    · refine st ?_
                                                      simp
                                                    rcases sp h with ⟨g27, h⟩ | ⟨g27, h⟩
                                                    · refine condT rfl g27 ?_
                                                      refine awp_skip ?_
                                                      refine seq_eq ?_
                                                      refine condT rfl (by simp [g27]) ?_
                                                      refine cut 36 0 [(2, .bool true)] [] ?_ ?_
                                                      · refine st ?_
                                                        simp
                                                      refine awp_ret ?_
                                                      refine ret_blk ?_
                                                      refine ret_seq ?_
                                                      obtain rfl := Option.some.inj h
                                                      simp
                                                    · refine condF rfl g27 ?_
                                                      refine cut 36 0 [(3, .str s1), (4, .bool (eqS s1 [116, 104, 101, 110]))] [] ?_ ?_
                                                      · refine st ?_
                                                        simp
                                                      rcases sp h with ⟨g28, h⟩ | ⟨g28, h⟩
                                                      · refine condT rfl g28 ?_
                                                        refine awp_skip ?_
                                                        refine seq_eq ?_
                                                        refine condT rfl (by simp [g28]) ?_
                                                        refine cut 36 0 [(2, .bool true)] [] ?_ ?_
                                                        · refine st ?_
                                                          simp
                                                        refine awp_ret ?_
                                                        refine ret_blk ?_
                                                        refine ret_seq ?_
                                                        obtain rfl := Option.some.inj h
                                                        simp
                                                      · refine condF rfl g28 ?_
                                                        refine cut 36 0 [(3, .str s1), (4, .bool (eqS s1 [116, 121, 112, 101]))] [] ?_ ?_
                                                        · refine st ?_
                                                          simp
                                                        rcases sp h with ⟨g29, h⟩ | ⟨g29, h⟩
                                                        · refine condT rfl g29 ?_
                                                          refine awp_skip ?_
                                                          refine seq_eq ?_
                                                          refine condT rfl (by simp [g29]) ?_
                                                          refine cut 36 0 [(2, .bool true)] [] ?_ ?_
                                                          · refine st ?_
                                                            simp
                                                          refine awp_ret ?_
                                                          refine ret_blk ?_
                                                          refine ret_seq ?_
                                                          obtain rfl := Option.some.inj h
                                                          simp
                                                        · refine condF rfl g29 ?_
                                                          refine cut 36 0 [(3, .str s1), (4, .bool (eqS s1 [117, 110, 112, 97, 99, 107]))] [] ?_ ?_
                                                          · refine st ?_
                                                            simp
                                                          rcases sp h with ⟨g30, h⟩ | ⟨g30, h⟩
                                                          · refine condT rfl g30 ?_
                                                            refine awp_skip ?_
                                                            refine seq_eq ?_
                                                            refine condT rfl (by simp [g30]) ?_
                                                            refine cut 36 0 [(2, .bool true)] [] ?_ ?_
                                                            · refine st ?_
                                                              simp
                                                            refine awp_ret ?_
                                                            refine ret_blk ?_
                                                            refine ret_seq ?_
                                                            obtain rfl := Option.some.inj h
                                                            simp
                                                          · refine condF rfl g30 ?_
                                                            refine cut 36 0 [(3, .str s1), (4, .bool (eqS s1 [118, 97, 108]))] [] ?_ ?_
                                                            · refine st ?_
                                                              simp
                                                            rcases sp h with ⟨g31, h⟩ | ⟨g31, h⟩
                                                            · refine condT rfl g31 ?_
                                                              refine awp_skip ?_
                                                              refine seq_eq ?_
                                                              refine condT rfl (by simp [g31]) ?_
                                                              refine cut 36 0 [(2, .bool true)] [] ?_ ?_
                                                              · refine st ?_
                                                                simp
                                                              refine awp_ret ?_
                                                              refine ret_blk ?_
                                                              refine ret_seq ?_
                                                              obtain rfl := Option.some.inj h
                                                              simp
                                                            · refine condF rfl g31 ?_
                                                              refine last 36 0 [(4, .bool (eqS s1 [119, 105, 116, 104]))] [] ?_ fun zz hs => ?_
                                                              · refine st ?_
                                                                simp
                                                              refine seq_le ?_ hs
                                                              rcases sp h with ⟨g32, h⟩ | ⟨g32, h⟩
                                                              · refine condT rfl g32 ?_
                                                                refine cut 36 0 [(2, .bool true)] [] ?_ ?_
                                                                · refine st ?_
                                                                  simp
                                                                refine awp_ret ?_
                                                                refine ret_blk ?_
                                                                refine ret_seq ?_
                                                                obtain rfl := Option.some.inj h
                                                                simp
                                                              · refine condF rfl g32 ?_
                                                                refine awp_skip ?_
                                                                refine blk_n ?_
                                                                refine seq_eq ?_
                                                                refine cut 36 0 [(2, .bool false)] [] ?_ ?_
                                                                · refine st ?_
                                                                  simp
                                                                refine awp_ret ?_
                                                                obtain rfl := Option.some.inj h
                                                                simp
end Go.Proofs.Ythbjlmoaceaeeaa
set_option linter.unusedVariables false
set_option linter.unusedSimpArgs false
set_option maxRecDepth 100000
set_option maxHeartbeats 1000000
namespace Go.Proofs.Ythbjlmoaceaeeaa
open Go Go.Abs
theorem lexer_scanner_token_1_ok (kind1 : Int) (n2 : Int) (text3 : (List UInt8)) (w4 : Lexer.scanner) (r : Api.Token × Int × Int × Lexer.scanner) (h : M.lexer_scanner_token_1 kind1 n2 text3 w4 = some r) : Raw Try.prog 103 [.int .i64 kind1, .int .i64 n2, .str text3, .mptr 0 0] [[.mptr 1 0], [.str w4.s, .int .i64 w4.at_]] (.tup [.agg [.int .i64 r.1.Kind, .str r.1.Text, .int .i64 r.1.At.Line, .int .i64 r.1.At.Column], .int .i64 r.2.1, .int .i64 r.2.2.1]) [[.mptr 1 0], [.str r.2.2.2.s, .int .i64 r.2.2.2.at_]] := by
  rw [M.lexer_scanner_token_1] at h
  refine raw_of_bodyB Try.func103 (by rfl) (by rfl) (by simp) (by simp) ?_
  refine cut 21 2 [(0, .int .i64 kind1), (1, .int .i64 n2), (2, .str text3), (3, .mptr 0 0), (7, .mptr 2 0)] [[.mptr 1 0], [.str w4.s, .int .i64 w4.at_], [.int .i64 0, .str ([] : List UInt8), .int .i64 0, .int .i64 0]] ?_ ?_
  · refine st ?_
    simp
  obtain ⟨n5, q6, h⟩ := bs h
  obtain ⟨q7, q8⟩ := chk_ok q6
  try simp at q7
  try simp at q8
  have c9 := q7; simp only [Rng, inR] at c9
  refine cut 21 2 [(0, .int .i64 kind1), (2, .str text3), (7, .mptr 2 0)] [[.mptr 1 0], [.str w4.s, .int .i64 n5], [.int .i64 0, .str ([] : List UInt8), .int .i64 0, .int .i64 0]] ?_ ?_
  · refine st ?_
    simp [q7, q8]
  refine cut 21 2 [(7, .mptr 2 0), (8, .int .i64 0), (9, .int .i64 0)] [[.mptr 1 0], [.str w4.s, .int .i64 n5], [.int .i64 kind1, .str text3, .int .i64 0, .int .i64 0]] ?_ ?_
  · refine st ?_
    simp
  refine awp_ret ?_
  obtain rfl := Option.some.inj h
  simp
end Go.Proofs.Ythbjlmoaceaeeaa
set_option linter.unusedVariables false
set_option linter.unusedSimpArgs false
set_option maxRecDepth 100000
set_option maxHeartbeats 1000000
namespace Go.Proofs.Ythbjlmoaceaeeaa
open Go Go.Abs
theorem lexer_scanner_token_2_ok (by1 : Int) (e2 : Int) (w3 : Lexer.scanner) (r : Api.Token × Int × Int) (h : M.lexer_scanner_token_2 by1 e2 w3 = some r) : Raw Try.prog 104 [.int .i64 by1, .int .i64 e2, .mptr 0 0] [[.mptr 1 0], [.str w3.s, .int .i64 w3.at_]] (.tup [.agg [.int .i64 r.1.Kind, .str r.1.Text, .int .i64 r.1.At.Line, .int .i64 r.1.At.Column], .int .i64 r.2.1, .int .i64 r.2.2]) [[.mptr 1 0], [.str w3.s, .int .i64 w3.at_]] := by
  rw [M.lexer_scanner_token_2] at h
  refine raw_of_bodyB Try.func104 (by rfl) (by rfl) (by simp) (by simp) ?_
  refine cut 16 2 [(0, .int .i64 by1), (1, .int .i64 e2), (2, .mptr 0 0), (5, .mptr 2 0)] [[.mptr 1 0], [.str w3.s, .int .i64 w3.at_], [.int .i64 0, .str ([] : List UInt8), .int .i64 0, .int .i64 0]] ?_ ?_
  · refine st ?_
    simp
  obtain ⟨n4, q5, h⟩ := bs h
  obtain ⟨q6, q7⟩ := chk_ok q5
  try simp at q6
  try simp at q7
  have c8 := q6; simp only [Rng, inR] at c8
  refine cut 16 2 [(5, .mptr 2 0), (6, .int .i64 n4), (7, .int .i64 e2)] [[.mptr 1 0], [.str w3.s, .int .i64 w3.at_], [.int .i64 0, .str ([] : List UInt8), .int .i64 0, .int .i64 0]] ?_ ?_
  · refine awp_region_draw [2] mixed (n := 16) rfl (by decide) ?_
    simp [q6, q7]
  refine awp_ret ?_
  obtain rfl := Option.some.inj h
  simp
end Go.Proofs.Ythbjlmoaceaeeaa
set_option linter.unusedVariables false
set_option linter.unusedSimpArgs false
set_option maxRecDepth 100000
set_option maxHeartbeats 1000000
namespace Go.Proofs.Ythbjlmoaceaeeaa
open Go Go.Abs
theorem lexer_length_digit_ok (fuel : Nat) (s1 : (List UInt8)) (r : Int) (h : M.lexer_length_digit fuel s1 = some r) : Pure Try.prog 107 [.str s1, .fn (.func 110) [] []] (.int .i64 r) := by
  rw [M.lexer_length_digit] at h
  refine pure_of_body Try.func107 (by rfl) (by rfl) (by simp) (by simp) (by simp) ?_
  refine cut 20 0 [(0, .str s1), (1, .fn (.func 110) [] [])] [] ?_ ?_
  · refine st ?_
    simp
  refine cut 20 0 [(0, .str s1), (1, .fn (.func 110) [] []), (5, .int .i64 0)] [] ?_ ?_
  · refine st ?_
    simp
  refine awp_seq ?_
  refine awp_block ?_
  obtain ⟨o3, l4, h⟩ := bs h
  refine awp_inv (fun p : Nat × Int => mkS 20 0 [(0, .str s1), (1, .fn (.func 110) [] []), (5, .int .i64 p.2)] []) (fun p => M.lexer_length_digit_l1 s1 p.1 p.2 = some o3 ∧ 0 ≤ p.2) (fun p => p.1) (fuel, 0) ⟨l4, by (try dsimp only); omega⟩ (le_mkS (by simp)) ?_
  rintro ⟨k6, n2⟩ ⟨l4, c5⟩
  dsimp only at l4 c5 ⊢
  cases k6 with
  | zero =>
    rw [M.lexer_length_digit_l1] at l4; cases l4
  | succ k7 =>
    rw [M.lexer_length_digit_l1] at l4
    refine awp_seq ?_
    obtain ⟨b19, q20, l4⟩ := bs l4
    refine cut 20 0 [(0, .str s1), (1, .fn (.func 110) [] []), (5, .int .i64 n2), (16, .bool b19)] [] ?_ ?_
    · rcases sp q20 with ⟨g8, q20⟩ | ⟨g8, q20⟩
      · have c9 := ltT g8
        refine factS 0 rfl fun f10 => ?_
        obtain ⟨c11, q12, q20⟩ := bs q20
        obtain ⟨q13, q14⟩ := idx_ok q12
        obtain ⟨v15, q16, q20⟩ := bs q20
        obtain rfl := Option.some.inj q20
        refine st ?_
        simp [g8, q13, q14]
        have r28 := lexer_digit_ok c11 v15 q16
        try simp [g8, q13, q14] at r28
        refine callPure r28 (by simp) rfl ?_
        simp [g8, q13, q14]
      · have c17 := ltF g8
        refine factS 0 rfl fun f18 => ?_
        obtain rfl := Option.some.inj q20
        refine st ?_
        simp [g8]
    rcases sp l4 with ⟨g21, l4⟩ | ⟨g21, l4⟩
    · refine condT rfl g21 ?_
      refine awp_skip ?_
      refine seq_eq ?_
      refine awp_block ?_
      obtain ⟨n22, q23, l4⟩ := bs l4
      obtain ⟨q24, q25⟩ := chk_ok q23
      try simp at q24
      try simp at q25
      have c26 := q24; simp only [Rng, inR] at c26
      refine last 20 0 [(0, .str s1), (1, .fn (.func 110) [] []), (5, .int .i64 n22)] [] ?_ fun zz hs => ?_
      · refine st ?_
        simp [q24, q25]
      refine blk_n ?_
      exact ⟨(k7, n22), hs, ⟨l4, by (try dsimp only); omega⟩, by simp⟩
    · refine condF rfl g21 ?_
      refine awp_exit ?_
      refine exit_seq ?_
      have q27 := Option.some.inj l4
      have q27 := q27.symm
      refine exit_seq ?_
      refine exit_blk ?_
      refine seq_le (t := mkS 20 0 [(5, .int .i64 o3)] []) ?_ (le_mkS (by simp [q27]))
      refine cut 20 0 [(4, .int .i64 o3)] [] ?_ ?_
      · refine st ?_
        simp
      refine awp_ret ?_
      obtain rfl := Option.some.inj h
      simp
end Go.Proofs.Ythbjlmoaceaeeaa
set_option linter.unusedVariables false
set_option linter.unusedSimpArgs false
set_option maxRecDepth 100000
set_option maxHeartbeats 1000000
namespace Go.Proofs.Ythbjlmoaceaeeaa
open Go Go.Abs
theorem lexer_number_ok (fuel : Nat) (s1 : (List UInt8)) (r : Int) (h : M.lexer_number fuel s1 = some r) : Pure Try.prog 111 [.str s1] (.int .i64 r) := by
  rw [M.lexer_number] at h
  refine pure_of_body Try.func111 (by rfl) (by rfl) (by simp) (by simp) (by simp) ?_
  refine cut 29 0 [(0, .str s1)] [] ?_ ?_
  · refine st ?_
    simp
  refine awp_seq ?_
  obtain ⟨b9, q10, h⟩ := bs h
  refine cut 29 0 [(0, .str s1), (12, .bool b9)] [] ?_ ?_
  · rcases sp q10 with ⟨g2, q10⟩ | ⟨g2, q10⟩
    · have c3 := ltT g2
      refine factS 0 rfl fun f4 => ?_
      obtain ⟨c5, q6, q10⟩ := bs q10
      obtain rfl := Option.some.inj q10
      refine st ?_
      simp [g2, q6]
    · have c7 := ltF g2
      refine factS 0 rfl fun f8 => ?_
      obtain rfl := Option.some.inj q10
      refine st ?_
      simp [g2]
  rcases sp h with ⟨g11, h⟩ | ⟨g11, h⟩
  · refine condT rfl g11 ?_
    refine cut 29 0 [(2, .int .i64 3)] [] ?_ ?_
    · refine st ?_
      simp
    refine awp_ret ?_
    refine ret_seq ?_
    obtain rfl := Option.some.inj h
    simp
  · refine condF rfl g11 ?_
    refine awp_skip ?_
    refine seq_eq ?_
    refine cut 29 0 [(0, .str s1), (3, .int .i64 0)] [] ?_ ?_
    · refine st ?_
      simp
    refine awp_seq ?_
    refine cut 29 0 [(0, .str s1), (3, .int .i64 0), (14, .int .i64 (s1.length : Int)), (15, .int .i64 0)] [] ?_ ?_
    · refine st ?_
      simp
    refine awp_block ?_
    obtain ⟨o15, l16, h⟩ := bs h
    refine awp_inv (fun p : Nat × Int × Nat => mkS 29 0 [(0, .str s1), (3, .int .i64 p.2.1), (14, .int .i64 (s1.length : Int)), (15, .int .i64 ((p.2.2 : Nat) : Int))] []) (fun p => M.lexer_number_l1 s1 p.1 p.2.1 p.2.2 = some o15) (fun p => p.1) (fuel, 0, 0) l16 (le_mkS (by simp)) ?_
    rintro ⟨k17, n12, i13⟩ l16
    dsimp only at l16 ⊢
    cases k17 with
    | zero =>
      rw [M.lexer_number_l1] at l16; cases l16
    | succ k18 =>
      rw [M.lexer_number_l1] at l16
      refine cut 29 0 [(0, .str s1), (3, .int .i64 n12), (14, .int .i64 (s1.length : Int)), (15, .int .i64 ((i13 : Nat) : Int)), (16, .bool (ltI ((i13 : Nat) : Int) (s1.length : Int)))] [] ?_ ?_
      · refine st ?_
        simp
      refine awp_seq ?_
      rcases sp l16 with ⟨g19, l16⟩ | ⟨g19, l16⟩
      · have c20 := ltT g19
        refine condT rfl g19 ?_
        refine factS 0 rfl fun f21 => ?_
        refine awp_skip ?_
        refine seq_eq ?_
        refine awp_seq ?_
        refine awp_block ?_
        refine cut 29 0 [(0, .str s1), (3, .int .i64 n12), (4, .int .i64 ((i13 : Nat) : Int)), (14, .int .i64 (s1.length : Int)), (15, .int .i64 ((i13 : Nat) : Int))] [] ?_ ?_
        · refine st ?_
          simp
        obtain ⟨n22, q23, l16⟩ := bs l16
        obtain ⟨q24, q25⟩ := chk_ok q23
        try simp at q24
        try simp at q25
        have c26 := q24; simp only [Rng, inR] at c26
        obtain ⟨c27, q28, l16⟩ := bs l16
        obtain ⟨n29, q30, l16⟩ := bs l16
        obtain ⟨q31, q32⟩ := chk_ok q30
        try simp at q31
        try simp at q32
        have c33 := q31; simp only [Rng, inR] at c33
        have q34 : Rng .i64 (n29) := by simp only [Rng, inR]; omega
        obtain ⟨n35, q36, l16⟩ := bs l16
        obtain ⟨q37, q38⟩ := chk_ok q36
        try simp at q37
        try simp at q38
        have c39 := q37; simp only [Rng, inR] at c39
        refine cut 29 0 [(0, .str s1), (3, .int .i64 n35), (14, .int .i64 (s1.length : Int)), (15, .int .i64 ((i13 : Nat) : Int))] [] ?_ ?_
        · refine st ?_
          simp [q24, q25, q28, q31, q32, q34, q37, q38]
        refine cut 29 0 [(0, .str s1), (3, .int .i64 n35), (14, .int .i64 (s1.length : Int)), (15, .int .i64 ((i13 : Nat) : Int)), (27, .bool (ltI 4503599627370496 n35))] [] ?_ ?_
        · refine st ?_
          simp
        rcases sp l16 with ⟨g40, l16⟩ | ⟨g40, l16⟩
        · have c41 := ltT g40
          refine condT rfl g40 ?_
          refine cut 29 0 [(2, .int .i64 6)] [] ?_ ?_
          · refine st ?_
            simp
          refine awp_ret ?_
          refine ret_blk ?_
          refine ret_seq ?_
          replace h := retL l16 h
          refine ret_seq ?_
          refine ret_blk ?_
          refine ret_seq ?_
          obtain rfl := Option.some.inj h
          simp
        · have c42 := ltF g40
          refine condF rfl g40 ?_
          refine awp_skip ?_
          refine blk_n ?_
          refine seq_eq ?_
          have q43 : Rng .i64 (((i13 : Nat) : Int) + 1) := by simp only [Rng, inR]; omega
          try simp at q43
          refine last 29 0 [(0, .str s1), (3, .int .i64 n35), (14, .int .i64 (s1.length : Int)), (15, .int .i64 ((i13 + 1 : Nat) : Int))] [] ?_ fun zz hs => ?_
          · refine st ?_
            simp [q43]
          exact ⟨(k18, n35, i13 + 1), hs, l16, by simp⟩
      · have c44 := ltF g19
        refine condF rfl g19 ?_
        refine factS 0 rfl fun f45 => ?_
        refine awp_exit ?_
        refine exit_seq ?_
        rcases o15 with o15 | o14
        · cases l16
        have q46 := Sum.inr.inj (Option.some.inj l16)
        replace h := elimR h
        refine exit_seq ?_
        refine exit_blk ?_
        refine seq_le (t := mkS 29 0 [] []) ?_ (le_mkS (by simp []))
        refine cut 29 0 [(2, .int .i64 0)] [] ?_ ?_
        · refine st ?_
          simp
        refine awp_ret ?_
        obtain rfl := Option.some.inj h
        simp
end Go.Proofs.Ythbjlmoaceaeeaa
set_option linter.unusedVariables false
set_option linter.unusedSimpArgs false
set_option maxRecDepth 100000
set_option maxHeartbeats 1000000
namespace Go.Proofs.Ythbjlmoaceaeeaa
open Go Go.Abs
theorem strings_Builder_WriteByte_ok (c1 : UInt8) (b2 : (List UInt8)) (r : (List UInt8)) (h : M.strings_Builder_WriteByte c1 b2 = some r) : Raw Try.prog 72 [.mptr 0 0, .int .u8 (c1.toNat : Int)] [[.baddr 119 0, .osl ⟨1, 5⟩ (b2.map cU)]] (.nilif) [[.baddr 119 0, .osl ⟨1, 5⟩ (r.map cU)]] := by
  rw [M.strings_Builder_WriteByte] at h
  refine raw_of_bodyB Try.func72 (by rfl) (by rfl) (by simp) (by simp) ?_
  refine cut 17 1 [(0, .mptr 0 0), (1, .int .u8 (c1.toNat : Int))] [[.baddr 119 0, .osl ⟨1, 5⟩ (b2.map cU)]] ?_ ?_
  · refine st ?_
    simp
  obtain ⟨v3, q4, h⟩ := bs h
  refine cut 17 1 [(0, .mptr 0 0), (1, .int .u8 (c1.toNat : Int))] [[.baddr 119 0, .osl ⟨1, 5⟩ (b2.map cU)]] ?_ ?_
  · refine st ?_
    simp
    have r9 := (strings_Builder_copyCheck_ok b2 v3 q4).frame [0] [[.baddr 119 0, .osl ⟨1, 5⟩ (b2.map cU)]] (by simp)
    try simp [] at r9
    refine callRaw r9 (by simp []) rfl ?_
    simp
  obtain ⟨l5, q6, h⟩ := bs h
  obtain ⟨q7, q8⟩ := app_ok q6
  try simp at q7
  refine cut 17 1 [] [[.baddr 119 0, .osl ⟨1, 5⟩ (l5.map cU)]] ?_ ?_
  · refine st ?_
    simp [q7, q8]
  refine cut 17 1 [(4, .nilif)] [[.baddr 119 0, .osl ⟨1, 5⟩ (l5.map cU)]] ?_ ?_
  · refine st ?_
    simp
  refine awp_ret ?_
  obtain rfl := Option.some.inj h
  simp
end Go.Proofs.Ythbjlmoaceaeeaa
set_option linter.unusedVariables false
set_option linter.unusedSimpArgs false
set_option maxRecDepth 100000
set_option maxHeartbeats 1000000
namespace Go.Proofs.Ythbjlmoaceaeeaa
open Go Go.Abs
theorem lexer_visible_ok (c1 : UInt8) (r : Bool) (h : M.lexer_visible c1 = some r) : Pure Try.prog 74 [.int .u8 (c1.toNat : Int)] (.bool r) := by
  rw [M.lexer_visible] at h
  refine pure_of_body Try.func74 (by rfl) (by rfl) (by simp) (by simp) (by simp) ?_
  refine cut 9 0 [(0, .int .u8 (c1.toNat : Int))] [] ?_ ?_
  · refine st ?_
    simp
  refine cut 9 0 [(2, .bool ((leI 32 (c1.toNat : Int)) && (leI (c1.toNat : Int) 126)))] [] ?_ ?_
  · rcases tf (leI 32 (c1.toNat : Int)) with g2 | g2
    · have c3 := leT g2
      refine st ?_
      simp [g2]
    · have c4 := leF g2
      refine st ?_
      simp [g2]
  refine awp_ret ?_
  obtain rfl := Option.some.inj h
  simp
end Go.Proofs.Ythbjlmoaceaeeaa
set_option linter.unusedVariables false
set_option linter.unusedSimpArgs false
set_option maxRecDepth 100000
set_option maxHeartbeats 1000000
namespace Go.Proofs.Ythbjlmoaceaeeaa
open Go Go.Abs
theorem lexer_literal_ok (fuel : Nat) (s1 : (List UInt8)) (r : (List UInt8) × Int × Int × Int) (h : M.lexer_literal fuel s1 = some r) : Pure Try.prog 76 [.str s1] (.tup [.str r.1, .int .i64 r.2.1, .int .i64 r.2.2.1, .int .i64 r.2.2.2]) := by
  rw [M.lexer_literal] at h
  refine pure_of_body Try.func76 (by rfl) (by rfl) (by simp) (by simp) (by simp) ?_
  refine cut 61 0 [(0, .str s1)] [] ?_ ?_
  · refine st ?_
    simp
  refine cut 61 0 [(0, .str s1), (6, .mptr 0 0)] [[.baddr 119 0, .osl ⟨1, 5⟩ (([] : List UInt8).map cU)]] ?_ ?_
  · refine st ?_
    simp
  refine awp_seq ?_
  refine cut 61 0 [(0, .str s1), (6, .mptr 0 0), (7, .int .i64 1)] [[.baddr 119 0, .osl ⟨1, 5⟩ (([] : List UInt8).map cU)]] ?_ ?_
  · refine st ?_
    simp
  refine awp_block ?_
  obtain ⟨o5, l6, h⟩ := bs h
  refine awp_inv (fun p : Nat × (List UInt8) × Nat => mkS 61 0 [(0, .str s1), (6, .mptr 0 0), (7, .int .i64 ((p.2.2 : Nat) : Int))] [[.baddr 119 0, .osl ⟨1, 5⟩ (p.2.1.map cU)]]) (fun p => M.lexer_literal_l1 s1 p.1 p.2.1 p.2.2 = some o5) (fun p => p.1) (fuel, ([] : List UInt8), 1) l6 (le_mkS (by simp)) ?_
  rintro ⟨k7, buf2, i3⟩ l6
  dsimp only at l6 ⊢
  cases k7 with
  | zero =>
    rw [M.lexer_literal_l1] at l6; cases l6
  | succ k8 =>
    rw [M.lexer_literal_l1] at l6
    refine awp_seq ?_
    refine cut 61 0 [(0, .str s1), (6, .mptr 0 0), (7, .int .i64 ((i3 : Nat) : Int)), (12, .bool (ltI ((i3 : Nat) : Int) (s1.length : Int)))] [[.baddr 119 0, .osl ⟨1, 5⟩ (buf2.map cU)]] ?_ ?_
    · refine st ?_
      simp
    rcases sp l6 with ⟨g9, l6⟩ | ⟨g9, l6⟩
    · have c10 := ltT g9
      refine condT rfl g9 ?_
      refine factS 0 rfl fun f11 => ?_
      refine awp_skip ?_
      refine seq_eq ?_
      refine awp_seq ?_
      refine awp_block ?_
      obtain ⟨c12, q13, l6⟩ := bs l6
      refine cut 61 0 [(0, .str s1), (6, .mptr 0 0), (7, .int .i64 ((i3 : Nat) : Int)), (8, .int .u8 (c12.toNat : Int))] [[.baddr 119 0, .osl ⟨1, 5⟩ (buf2.map cU)]] ?_ ?_
      · refine st ?_
        simp [q13]
      refine awp_block ?_
      refine cut 61 0 [(0, .str s1), (6, .mptr 0 0), (7, .int .i64 ((i3 : Nat) : Int)), (8, .int .u8 (c12.toNat : Int)), (20, .bool (eqI (c12.toNat : Int) 34))] [[.baddr 119 0, .osl ⟨1, 5⟩ (buf2.map cU)]] ?_ ?_
      · refine st ?_
        simp
      rcases sp l6 with ⟨g14, l6⟩ | ⟨g14, l6⟩
      · have c15 := eqT g14
        refine condT rfl g14 ?_
        obtain ⟨v16, q17, l6⟩ := bs l6
        have q18 : Rng .i64 (((i3 : Nat) : Int) + 1) := by simp only [Rng, inR]; omega
        try simp at q18
        refine cut 61 0 [(2, .str v16), (3, .int .i64 ((i3 + 1 : Nat) : Int)), (4, .int .i64 0), (5, .int .i64 0)] [[.baddr 119 0, .osl ⟨1, 5⟩ (buf2.map cU)]] ?_ ?_
        · refine st ?_
          simp [q18]
          have r19 := (strings_Builder_String_ok buf2 v16 q17).frame [0] [[.baddr 119 0, .osl ⟨1, 5⟩ (buf2.map cU)]] (by simp)
          try simp [q18] at r19
          refine callRaw r19 (by simp [q18]) rfl ?_
          simp [q18]
        refine awp_ret ?_
        refine ret_blk ?_
        refine ret_blk ?_
        refine ret_seq ?_
        replace h := retL l6 h
        refine ret_seq ?_
        refine ret_blk ?_
        refine ret_seq ?_
        obtain rfl := Option.some.inj h
        simp
      · have c20 := eqF g14
        refine condF rfl g14 ?_
        refine cut 61 0 [(0, .str s1), (6, .mptr 0 0), (7, .int .i64 ((i3 : Nat) : Int)), (8, .int .u8 (c12.toNat : Int)), (26, .bool ((eqI (c12.toNat : Int) 92) && (ltI ((i3 + 1 : Nat) : Int) (s1.length : Int))))] [[.baddr 119 0, .osl ⟨1, 5⟩ (buf2.map cU)]] ?_ ?_
        · rcases tf (eqI (c12.toNat : Int) 92) with g21 | g21
          · have c22 := eqT g21
            have q23 : Rng .i64 (((i3 : Nat) : Int) + 1) := by simp only [Rng, inR]; omega
            try simp at q23
            refine st ?_
            simp [g21, q23]
          · have c24 := eqF g21
            refine st ?_
            simp [g21]
        rcases sp l6 with ⟨g25, l6⟩ | ⟨g25, l6⟩
        · obtain ⟨g26, g27⟩ := andT g25
          have c28 := eqT g26
          have c29 := ltT g27
          refine condT rfl g25 ?_
          have q30 : Rng .i64 (((i3 : Nat) : Int) + 1) := by simp only [Rng, inR]; omega
          try simp at q30
          refine cut 61 0 [(0, .str s1), (6, .mptr 0 0), (7, .int .i64 ((i3 + 1 : Nat) : Int))] [[.baddr 119 0, .osl ⟨1, 5⟩ (buf2.map cU)]] ?_ ?_
          · refine st ?_
            simp [q30]
          obtain ⟨c31, q32, l6⟩ := bs l6
          refine cut 61 0 [(0, .str s1), (6, .mptr 0 0), (7, .int .i64 ((i3 + 1 : Nat) : Int)), (40, .int .u8 (c31.toNat : Int))] [[.baddr 119 0, .osl ⟨1, 5⟩ (buf2.map cU)]] ?_ ?_
          · refine st ?_
            simp [q32]
          refine awp_block ?_
          refine awp_seq ?_
          refine cut 61 0 [(0, .str s1), (6, .mptr 0 0), (7, .int .i64 ((i3 + 1 : Nat) : Int)), (40, .int .u8 (c31.toNat : Int)), (43, .bool (eqI (c31.toNat : Int) 34))] [[.baddr 119 0, .osl ⟨1, 5⟩ (buf2.map cU)]] ?_ ?_
          · refine st ?_
            simp
          rcases sp l6 with ⟨g33, l6⟩ | ⟨g33, l6⟩
          · have c34 := eqT g33
            refine condT rfl g33 ?_
            refine awp_skip ?_
            refine seq_eq ?_
            refine condT rfl (by simp [g33]) ?_
            obtain ⟨v35, q36, l6⟩ := bs l6
            refine last 61 0 [(0, .str s1), (6, .mptr 0 0), (7, .int .i64 ((i3 + 1 : Nat) : Int))] [[.baddr 119 0, .osl ⟨1, 5⟩ (v35.map cU)]] ?_ fun zz hs => ?_
            · refine st ?_
              simp [q32]
              have r38 := (strings_Builder_WriteByte_ok c31 buf2 v35 q36).frame [0] [[.baddr 119 0, .osl ⟨1, 5⟩ (buf2.map cU)]] (by simp)
              try simp [q32] at r38
              refine callRaw r38 (by simp [q32]) rfl ?_
              simp [q32]
            refine blk_n ?_
            refine blk_n ?_
            refine blk_n ?_
            refine seq_le ?_ hs
            have q37 : Rng .i64 (((i3 + 1 : Nat) : Int) + 1) := by simp only [Rng, inR]; omega
            try simp at q37
            refine last 61 0 [(0, .str s1), (6, .mptr 0 0), (7, .int .i64 (((i3 + 1) + 1 : Nat) : Int))] [[.baddr 119 0, .osl ⟨1, 5⟩ (v35.map cU)]] ?_ fun zz hs => ?_
            · refine st ?_
              simp [q37]
            exact ⟨(k8, v35, (i3 + 1) + 1), hs, l6, by simp⟩
          · have c39 := eqF g33
            refine condF rfl g33 ?_
            refine last 61 0 [(0, .str s1), (6, .mptr 0 0), (7, .int .i64 ((i3 + 1 : Nat) : Int)), (40, .int .u8 (c31.toNat : Int)), (43, .bool (eqI (c31.toNat : Int) 92))] [[.baddr 119 0, .osl ⟨1, 5⟩ (buf2.map cU)]] ?_ fun zz hs => ?_
            · refine st ?_
              simp
            refine seq_le ?_ hs
            rcases sp l6 with ⟨g40, l6⟩ | ⟨g40, l6⟩
            · have c41 := eqT g40
              refine condT rfl g40 ?_
              obtain ⟨v42, q43, l6⟩ := bs l6
              refine last 61 0 [(0, .str s1), (6, .mptr 0 0), (7, .int .i64 ((i3 + 1 : Nat) : Int))] [[.baddr 119 0, .osl ⟨1, 5⟩ (v42.map cU)]] ?_ fun zz hs => ?_
              · refine st ?_
                simp [q32]
                have r45 := (strings_Builder_WriteByte_ok c31 buf2 v42 q43).frame [0] [[.baddr 119 0, .osl ⟨1, 5⟩ (buf2.map cU)]] (by simp)
                try simp [q32] at r45
                refine callRaw r45 (by simp [q32]) rfl ?_
                simp [q32]
              refine blk_n ?_
              refine blk_n ?_
              refine blk_n ?_
              refine seq_le ?_ hs
              have q44 : Rng .i64 (((i3 + 1 : Nat) : Int) + 1) := by simp only [Rng, inR]; omega
              try simp at q44
              refine last 61 0 [(0, .str s1), (6, .mptr 0 0), (7, .int .i64 (((i3 + 1) + 1 : Nat) : Int))] [[.baddr 119 0, .osl ⟨1, 5⟩ (v42.map cU)]] ?_ fun zz hs => ?_
              · refine st ?_
                simp [q44]
              exact ⟨(k8, v42, (i3 + 1) + 1), hs, l6, by simp⟩
            · have c46 := eqF g40
              refine condF rfl g40 ?_
              refine cut 61 0 [(0, .str s1), (6, .mptr 0 0), (7, .int .i64 ((i3 + 1 : Nat) : Int)), (50, .bool (eqI (c31.toNat : Int) 110))] [[.baddr 119 0, .osl ⟨1, 5⟩ (buf2.map cU)]] ?_ ?_
              · refine st ?_
                simp
              rcases sp l6 with ⟨g47, l6⟩ | ⟨g47, l6⟩
              · have c48 := eqT g47
                refine condT rfl g47 ?_
                obtain ⟨v49, q50, l6⟩ := bs l6
                refine last 61 0 [(0, .str s1), (6, .mptr 0 0), (7, .int .i64 ((i3 + 1 : Nat) : Int))] [[.baddr 119 0, .osl ⟨1, 5⟩ (v49.map cU)]] ?_ fun zz hs => ?_
                · refine st ?_
                  simp
                  have r52 := (strings_Builder_WriteByte_ok (10 : UInt8) buf2 v49 q50).frame [0] [[.baddr 119 0, .osl ⟨1, 5⟩ (buf2.map cU)]] (by simp)
                  try simp [] at r52
                  refine callRaw r52 (by simp []) rfl ?_
                  simp
                refine blk_n ?_
                refine blk_n ?_
                refine blk_n ?_
                refine seq_le ?_ hs
                have q51 : Rng .i64 (((i3 + 1 : Nat) : Int) + 1) := by simp only [Rng, inR]; omega
                try simp at q51
                refine last 61 0 [(0, .str s1), (6, .mptr 0 0), (7, .int .i64 (((i3 + 1) + 1 : Nat) : Int))] [[.baddr 119 0, .osl ⟨1, 5⟩ (v49.map cU)]] ?_ fun zz hs => ?_
                · refine st ?_
                  simp [q51]
                exact ⟨(k8, v49, (i3 + 1) + 1), hs, l6, by simp⟩
              · have c53 := eqF g47
                refine condF rfl g47 ?_
                have q54 : Rng .i64 (((i3 + 1 : Nat) : Int) - 1) := by simp only [Rng, inR]; omega
                try simp at q54
                refine cut 61 0 [(2, .str ([] : List UInt8)), (3, .int .i64 0), (4, .int .i64 (((i3 + 1 : Nat) : Int) - 1)), (5, .int .i64 3)] [[.baddr 119 0, .osl ⟨1, 5⟩ (buf2.map cU)]] ?_ ?_
                · refine st ?_
                  simp [q54]
                refine awp_ret ?_
                refine ret_blk ?_
                refine ret_blk ?_
                refine ret_blk ?_
                refine ret_seq ?_
                replace h := retL l6 h
                refine ret_seq ?_
                refine ret_blk ?_
                refine ret_seq ?_
                obtain rfl := Option.some.inj h
                simp
        · refine condF rfl g25 ?_
          refine cut 61 0 [(0, .str s1), (6, .mptr 0 0), (7, .int .i64 ((i3 : Nat) : Int)), (8, .int .u8 (c12.toNat : Int)), (53, .bool (eqI (c12.toNat : Int) 92))] [[.baddr 119 0, .osl ⟨1, 5⟩ (buf2.map cU)]] ?_ ?_
          · refine st ?_
            simp
          rcases sp l6 with ⟨g55, l6⟩ | ⟨g55, l6⟩
          · have c56 := eqT g55
            refine condT rfl g55 ?_
            refine cut 61 0 [(2, .str ([] : List UInt8)), (3, .int .i64 0), (4, .int .i64 0), (5, .int .i64 4)] [[.baddr 119 0, .osl ⟨1, 5⟩ (buf2.map cU)]] ?_ ?_
            · refine st ?_
              simp
            refine awp_ret ?_
            refine ret_blk ?_
            refine ret_blk ?_
            refine ret_seq ?_
            replace h := retL l6 h
            refine ret_seq ?_
            refine ret_blk ?_
            refine ret_seq ?_
            obtain rfl := Option.some.inj h
            simp
          · have c57 := eqF g55
            refine condF rfl g55 ?_
            obtain ⟨v58, q59, l6⟩ := bs l6
            refine cut 61 0 [(0, .str s1), (6, .mptr 0 0), (7, .int .i64 ((i3 : Nat) : Int)), (8, .int .u8 (c12.toNat : Int)), (56, .bool (!v58))] [[.baddr 119 0, .osl ⟨1, 5⟩ (buf2.map cU)]] ?_ ?_
            · refine st ?_
              simp
              have r67 := lexer_visible_ok c12 v58 q59
              try simp [] at r67
              refine callPure r67 (by simp) rfl ?_
              simp
            rcases sp l6 with ⟨g60, l6⟩ | ⟨g60, l6⟩
            · have g61 := notT g60
              refine condT rfl g60 ?_
              refine cut 61 0 [(2, .str ([] : List UInt8)), (3, .int .i64 0), (4, .int .i64 ((i3 : Nat) : Int)), (5, .int .i64 3)] [[.baddr 119 0, .osl ⟨1, 5⟩ (buf2.map cU)]] ?_ ?_
              · refine st ?_
                simp
              refine awp_ret ?_
              refine ret_blk ?_
              refine ret_blk ?_
              refine ret_seq ?_
              replace h := retL l6 h
              refine ret_seq ?_
              refine ret_blk ?_
              refine ret_seq ?_
              obtain rfl := Option.some.inj h
              simp
            · have g62 := notF g60
              refine condF rfl g60 ?_
              obtain ⟨v63, q64, l6⟩ := bs l6
              refine last 61 0 [(0, .str s1), (6, .mptr 0 0), (7, .int .i64 ((i3 : Nat) : Int))] [[.baddr 119 0, .osl ⟨1, 5⟩ (v63.map cU)]] ?_ fun zz hs => ?_
              · refine st ?_
                simp
                have r66 := (strings_Builder_WriteByte_ok c12 buf2 v63 q64).frame [0] [[.baddr 119 0, .osl ⟨1, 5⟩ (buf2.map cU)]] (by simp)
                try simp [] at r66
                refine callRaw r66 (by simp []) rfl ?_
                simp
              refine blk_n ?_
              refine blk_n ?_
              refine seq_le ?_ hs
              have q65 : Rng .i64 (((i3 : Nat) : Int) + 1) := by simp only [Rng, inR]; omega
              try simp at q65
              refine last 61 0 [(0, .str s1), (6, .mptr 0 0), (7, .int .i64 ((i3 + 1 : Nat) : Int))] [[.baddr 119 0, .osl ⟨1, 5⟩ (v63.map cU)]] ?_ fun zz hs => ?_
              · refine st ?_
                simp [q65]
              exact ⟨(k8, v63, i3 + 1), hs, l6, by simp⟩
    · have c68 := ltF g9
      refine condF rfl g9 ?_
      refine factS 0 rfl fun f69 => ?_
      refine awp_exit ?_
      refine exit_seq ?_
      rcases o5 with o5 | o4
      · cases l6
      have q70 := Sum.inr.inj (Option.some.inj l6)
      replace h := elimR h
      have q70 := q70.symm
      refine exit_seq ?_
      refine exit_blk ?_
      refine seq_le (t := mkS 61 0 [] [[.baddr 119 0, .osl ⟨1, 5⟩ (o4.map cU)]]) ?_ (le_mkS (by simp [q70]))
      refine cut 61 0 [(2, .str ([] : List UInt8)), (3, .int .i64 0), (4, .int .i64 0), (5, .int .i64 4)] [[.baddr 119 0, .osl ⟨1, 5⟩ (o4.map cU)]] ?_ ?_
      · refine st ?_
        simp
      refine awp_ret ?_
      obtain rfl := Option.some.inj h
      simp
end Go.Proofs.Ythbjlmoaceaeeaa
set_option linter.unusedVariables false
set_option linter.unusedSimpArgs false
set_option maxRecDepth 100000
set_option maxHeartbeats 1000000
namespace Go.Proofs.Ythbjlmoaceaeeaa
open Go Go.Abs
theorem lexer_Symbol_ok (fuel : Nat) (s1 : (List UInt8)) (r : (List UInt8) × Bool) (h : M.lexer_Symbol fuel s1 = some r) : Pure Try.prog 112 [.str s1] (.tup [.str r.1, .bool r.2]) := by
  rw [M.lexer_Symbol] at h
  refine pure_of_body Try.func112 (by rfl) (by rfl) (by simp) (by simp) (by simp) ?_
  refine cut 29 0 [(0, .str s1)] [] ?_ ?_
  · refine st ?_
    simp
  refine awp_seq ?_
  obtain ⟨v2, q3, h⟩ := bs h
  refine cut 29 0 [(0, .str s1), (7, .bool v2)] [] ?_ ?_
  · refine st ?_
    simp
    have r43 := strings_HasPrefix_ok s1 [40, 42] v2 q3
    try simp [] at r43
    refine callPure r43 (by simp) rfl ?_
    simp
  rcases sp h with ⟨g4, h⟩ | ⟨g4, h⟩
  · refine condT rfl g4 ?_
    refine cut 29 0 [(2, .str ([] : List UInt8)), (3, .bool false)] [] ?_ ?_
    · refine st ?_
      simp
    refine awp_ret ?_
    refine ret_seq ?_
    obtain rfl := Option.some.inj h
    simp
  · refine condF rfl g4 ?_
    refine awp_skip ?_
    refine seq_eq ?_
    refine awp_seq ?_
    obtain ⟨l5, q6, h⟩ := bs h
    obtain ⟨q7, q8⟩ := lit_ok q6
    refine cut 29 0 [(0, .str s1), (8, .osl ⟨1, 9⟩ (l5.map cS)), (9, .int .i64 (l5.length : Int)), (10, .int .i64 0)] [] ?_ ?_
    · refine st ?_
      simp [q7, q8]
    refine awp_block ?_
    obtain ⟨o11, l12, h⟩ := bs h
    refine awp_inv (fun p : Nat × Nat => mkS 29 0 [(0, .str s1), (8, .osl ⟨1, 9⟩ (l5.map cS)), (9, .int .i64 (l5.length : Int)), (10, .int .i64 ((p.2 : Nat) : Int))] []) (fun p => M.lexer_Symbol_l1 s1 l5 p.1 p.2 = some o11) (fun p => p.1) (fuel, 0) l12 (le_mkS (by simp)) ?_
    rintro ⟨k13, i9⟩ l12
    dsimp only at l12 ⊢
    cases k13 with
    | zero =>
      rw [M.lexer_Symbol_l1] at l12; cases l12
    | succ k14 =>
      rw [M.lexer_Symbol_l1] at l12
      refine cut 29 0 [(0, .str s1), (8, .osl ⟨1, 9⟩ (l5.map cS)), (9, .int .i64 (l5.length : Int)), (10, .int .i64 ((i9 : Nat) : Int)), (11, .bool (ltI ((i9 : Nat) : Int) (l5.length : Int)))] [] ?_ ?_
      · refine st ?_
        simp
      refine awp_seq ?_
      rcases sp l12 with ⟨g15, l12⟩ | ⟨g15, l12⟩
      · have c16 := ltT g15
        refine condT rfl g15 ?_
        refine factL 8 rfl fun f17 => ?_
        rw [List.length_map] at f17
        refine awp_skip ?_
        refine seq_eq ?_
        refine awp_seq ?_
        refine awp_block ?_
        obtain ⟨x18, q19, l12⟩ := bs l12
        refine cut 29 0 [(0, .str s1), (5, .str x18), (8, .osl ⟨1, 9⟩ (l5.map cS)), (9, .int .i64 (l5.length : Int)), (10, .int .i64 ((i9 : Nat) : Int))] [] ?_ ?_
        · refine st ?_
          simp [q19]
        obtain ⟨v20, q21, l12⟩ := bs l12
        refine cut 29 0 [(0, .str s1), (5, .str x18), (8, .osl ⟨1, 9⟩ (l5.map cS)), (9, .int .i64 (l5.length : Int)), (10, .int .i64 ((i9 : Nat) : Int)), (16, .bool v20)] [] ?_ ?_
        · refine st ?_
          simp
          have r24 := strings_HasPrefix_ok s1 x18 v20 q21
          try simp [] at r24
          refine callPure r24 (by simp) rfl ?_
          simp
        rcases sp l12 with ⟨g22, l12⟩ | ⟨g22, l12⟩
        · refine condT rfl g22 ?_
          refine cut 29 0 [(2, .str x18), (3, .bool true)] [] ?_ ?_
          · refine st ?_
            simp
          refine awp_ret ?_
          refine ret_blk ?_
          refine ret_seq ?_
          replace h := retL l12 h
          refine ret_seq ?_
          refine ret_blk ?_
          refine ret_seq ?_
          obtain rfl := Option.some.inj h
          simp
        · refine condF rfl g22 ?_
          refine awp_skip ?_
          refine blk_n ?_
          refine seq_eq ?_
          have q23 : Rng .i64 (((i9 : Nat) : Int) + 1) := by simp only [Rng, inR]; omega
          try simp at q23
          refine last 29 0 [(0, .str s1), (8, .osl ⟨1, 9⟩ (l5.map cS)), (9, .int .i64 (l5.length : Int)), (10, .int .i64 ((i9 + 1 : Nat) : Int))] [] ?_ fun zz hs => ?_
          · refine st ?_
            simp [q23]
          exact ⟨(k14, i9 + 1), hs, l12, by simp⟩
      · have c25 := ltF g15
        refine condF rfl g15 ?_
        refine factL 8 rfl fun f26 => ?_
        rw [List.length_map] at f26
        refine awp_exit ?_
        refine exit_seq ?_
        rcases o11 with o11 | o10
        · cases l12
        have q27 := Sum.inr.inj (Option.some.inj l12)
        replace h := elimR h
        refine exit_seq ?_
        refine exit_blk ?_
        refine seq_le (t := mkS 29 0 [(0, .str s1)] []) ?_ (le_mkS (by simp []))
        refine awp_seq ?_
        obtain ⟨b35, q36, h⟩ := bs h
        refine cut 29 0 [(0, .str s1), (26, .bool b35)] [] ?_ ?_
        · rcases sp q36 with ⟨g28, q36⟩ | ⟨g28, q36⟩
          · have g29 := notT g28
            obtain ⟨c30, q31, q36⟩ := bs q36
            obtain ⟨v32, q33, q36⟩ := bs q36
            obtain rfl := Option.some.inj q36
            refine st ?_
            simp [g28, q31]
            have r42 := strings_IndexByte_ok [40, 41, 44, 59, 58, 61, 124, 95, 46, 42, 43, 45, 60, 94, 126] c30 v32 q33
            try simp [g28, q31] at r42
            refine callPure r42 (by simp) rfl ?_
            simp [g28, q31]
          · have g34 := notF g28
            obtain rfl := Option.some.inj q36
            refine st ?_
            simp [g28]
        rcases sp h with ⟨g37, h⟩ | ⟨g37, h⟩
        · refine condT rfl g37 ?_
          obtain ⟨s38, q39, h⟩ := bs h
          obtain ⟨q40, q41⟩ := subC_ok q39
          try simp at q40
          try simp at q41
          refine cut 29 0 [(2, .str s38), (3, .bool true)] [] ?_ ?_
          · refine st ?_
            simp [q40, q41]
          refine awp_ret ?_
          refine ret_seq ?_
          obtain rfl := Option.some.inj h
          simp
        · refine condF rfl g37 ?_
          refine awp_skip ?_
          refine seq_eq ?_
          refine cut 29 0 [(2, .str ([] : List UInt8)), (3, .bool false)] [] ?_ ?_
          · refine st ?_
            simp
          refine awp_ret ?_
          obtain rfl := Option.some.inj h
          simp
end Go.Proofs.Ythbjlmoaceaeeaa
set_option linter.unusedVariables false
set_option linter.unusedSimpArgs false
set_option maxRecDepth 100000
set_option maxHeartbeats 1000000
namespace Go.Proofs.Ythbjlmoaceaeeaa
open Go Go.Abs
theorem lexer_scanner_token_ok (fuel : Nat) (w1 : Lexer.scanner) (r : Api.Token × Int × Int × Lexer.scanner) (h : M.lexer_scanner_token fuel w1 = some r) : Raw Try.prog 63 [.mptr 0 0] [[.str w1.s, .int .i64 w1.at_]] (.tup [.agg [.int .i64 r.1.Kind, .str r.1.Text, .int .i64 r.1.At.Line, .int .i64 r.1.At.Column], .int .i64 r.2.1, .int .i64 r.2.2.1]) [[.str r.2.2.2.s, .int .i64 r.2.2.2.at_]] := by
  rw [M.lexer_scanner_token] at h
  refine raw_of_bodyB Try.func63 (by rfl) (by rfl) (by simp) (by simp) ?_
  refine cut 188 1 [(1, .mptr 1 0), (2, .mptr 2 0)] [[.str w1.s, .int .i64 w1.at_], [.mptr 0 0], [.int .i64 0, .str ([] : List UInt8), .int .i64 0, .int .i64 0]] ?_ ?_
  · refine st ?_
    simp
  obtain ⟨s2, q3, h⟩ := bs h
  obtain ⟨q4, q5⟩ := subC_ok q3
  try simp at q4
  try simp at q5
  refine cut 188 1 [(1, .mptr 1 0), (2, .mptr 2 0), (5, .str s2)] [[.str w1.s, .int .i64 w1.at_], [.mptr 0 0], [.int .i64 0, .str ([] : List UInt8), .int .i64 0, .int .i64 0]] ?_ ?_
  · refine awp_region_draw [] mixed (n := 188) rfl (by decide) ?_
    simp [q4, q5]
  refine cut 188 1 [(1, .mptr 1 0), (2, .mptr 2 0), (5, .str s2), (6, .fn (.func 103) [] [.mptr 1 0])] [[.str w1.s, .int .i64 w1.at_], [.mptr 0 0], [.int .i64 0, .str ([] : List UInt8), .int .i64 0, .int .i64 0]] ?_ ?_
  · refine st ?_
    simp
  refine cut 188 1 [(2, .mptr 2 0), (5, .str s2), (6, .fn (.func 103) [] [.mptr 1 0]), (7, .fn (.func 104) [] [.mptr 1 0])] [[.str w1.s, .int .i64 w1.at_], [.mptr 0 0], [.int .i64 0, .str ([] : List UInt8), .int .i64 0, .int .i64 0]] ?_ ?_
  · refine st ?_
    simp
  obtain ⟨c6, q7, h⟩ := bs h
  refine cut 188 1 [(2, .mptr 2 0), (5, .str s2), (6, .fn (.func 103) [] [.mptr 1 0]), (7, .fn (.func 104) [] [.mptr 1 0]), (8, .int .u8 (c6.toNat : Int))] [[.str w1.s, .int .i64 w1.at_], [.mptr 0 0], [.int .i64 0, .str ([] : List UInt8), .int .i64 0, .int .i64 0]] ?_ ?_
  · refine st ?_
    simp [q7]
  refine awp_seq ?_
  refine awp_block ?_
  obtain ⟨b13, q14, h⟩ := bs h
  refine cut 188 1 [(2, .mptr 2 0), (5, .str s2), (6, .fn (.func 103) [] [.mptr 1 0]), (7, .fn (.func 104) [] [.mptr 1 0]), (8, .int .u8 (c6.toNat : Int)), (33, .bool b13)] [[.str w1.s, .int .i64 w1.at_], [.mptr 0 0], [.int .i64 0, .str ([] : List UInt8), .int .i64 0, .int .i64 0]] ?_ ?_
  · obtain ⟨v8, q9, q14⟩ := bs q14
    rcases sp q14 with ⟨g10, q14⟩ | ⟨g10, q14⟩
    · obtain rfl := Option.some.inj q14
      refine st ?_
      simp [g10]
      have r142 := lexer_small_ok c6 v8 q9
      try simp [g10] at r142
      refine callPure r142 (by simp) rfl ?_
      simp [g10]
    · obtain ⟨v11, q12, q14⟩ := bs q14
      obtain rfl := Option.some.inj q14
      refine st ?_
      simp [g10]
      have r143 := lexer_small_ok c6 v8 q9
      try simp [g10] at r143
      refine callPure r143 (by simp) rfl ?_
      simp [g10]
      have r144 := lexer_capital_ok c6 v11 q12
      try simp [g10] at r144
      refine callPure r144 (by simp) rfl ?_
      simp [g10]
  rcases sp h with ⟨g15, h⟩ | ⟨g15, h⟩
  · refine condT rfl g15 ?_
    obtain ⟨v16, q17, h⟩ := bs h
    refine cut 188 1 [(2, .mptr 2 0), (5, .str s2), (6, .fn (.func 103) [] [.mptr 1 0]), (7, .fn (.func 104) [] [.mptr 1 0]), (8, .int .u8 (c6.toNat : Int)), (9, .int .i64 v16)] [[.str w1.s, .int .i64 w1.at_], [.mptr 0 0], [.int .i64 0, .str ([] : List UInt8), .int .i64 0, .int .i64 0]] ?_ ?_
    · refine st ?_
      simp
      have r45 := lexer_length_inner_ok fuel s2 v16 q17
      try simp [] at r45
      refine callPure r45 (by simp) rfl ?_
      simp
    obtain ⟨s18, q19, h⟩ := bs h
    obtain ⟨q20, q21⟩ := subC_ok q19
    try simp at q20
    try simp at q21
    refine cut 188 1 [(2, .mptr 2 0), (6, .fn (.func 103) [] [.mptr 1 0]), (7, .fn (.func 104) [] [.mptr 1 0]), (8, .int .u8 (c6.toNat : Int)), (9, .int .i64 v16), (10, .str s18)] [[.str w1.s, .int .i64 w1.at_], [.mptr 0 0], [.int .i64 0, .str ([] : List UInt8), .int .i64 0, .int .i64 0]] ?_ ?_
    · refine st ?_
      simp [q20, q21]
    refine awp_seq ?_
    refine awp_block ?_
    obtain ⟨v22, q23, h⟩ := bs h
    refine cut 188 1 [(2, .mptr 2 0), (6, .fn (.func 103) [] [.mptr 1 0]), (7, .fn (.func 104) [] [.mptr 1 0]), (8, .int .u8 (c6.toNat : Int)), (9, .int .i64 v16), (10, .str s18), (45, .bool v22)] [[.str w1.s, .int .i64 w1.at_], [.mptr 0 0], [.int .i64 0, .str ([] : List UInt8), .int .i64 0, .int .i64 0]] ?_ ?_
    · refine st ?_
      simp
      have r44 := lexer_Keyword_ok s18 v22 q23
      try simp [] at r44
      refine callPure r44 (by simp) rfl ?_
      simp
    rcases sp h with ⟨g24, h⟩ | ⟨g24, h⟩
    · refine condT rfl g24 ?_
      obtain ⟨v25, q26, h⟩ := bs h
      refine cut 188 1 [(2, .mptr 2 0), (3, .int .i64 v25.2.1), (4, .int .i64 v25.2.2.1)] [[.str v25.2.2.2.s, .int .i64 v25.2.2.2.at_], [.mptr 0 0], [.int .i64 v25.1.Kind, .str v25.1.Text, .int .i64 v25.1.At.Line, .int .i64 v25.1.At.Column]] ?_ ?_
      · refine st ?_
        simp
        have r27 := (lexer_scanner_token_1_ok 6 v16 s18 w1 v25 q26).frame [1, 0] [[.str w1.s, .int .i64 w1.at_], [.mptr 0 0], [.int .i64 0, .str ([] : List UInt8), .int .i64 0, .int .i64 0]] (by simp)
        try simp [] at r27
        refine callRaw r27 (by simp []) rfl ?_
        simp
      refine awp_ret ?_
      refine ret_blk ?_
      refine ret_seq ?_
      refine ret_blk ?_
      refine ret_seq ?_
      obtain rfl := Option.some.inj h
      simp
    · refine condF rfl g24 ?_
      refine cut 188 1 [(2, .mptr 2 0), (6, .fn (.func 103) [] [.mptr 1 0]), (7, .fn (.func 104) [] [.mptr 1 0]), (8, .int .u8 (c6.toNat : Int)), (9, .int .i64 v16), (10, .str s18), (55, .bool (ltI 24 v16))] [[.str w1.s, .int .i64 w1.at_], [.mptr 0 0], [.int .i64 0, .str ([] : List UInt8), .int .i64 0, .int .i64 0]] ?_ ?_
      · refine st ?_
        simp
      rcases sp h with ⟨g28, h⟩ | ⟨g28, h⟩
      · have c29 := ltT g28
        refine condT rfl g28 ?_
        obtain ⟨v30, q31, h⟩ := bs h
        refine cut 188 1 [(2, .mptr 2 0), (3, .int .i64 v30.2.1), (4, .int .i64 v30.2.2)] [[.str w1.s, .int .i64 w1.at_], [.mptr 0 0], [.int .i64 v30.1.Kind, .str v30.1.Text, .int .i64 v30.1.At.Line, .int .i64 v30.1.At.Column]] ?_ ?_
        · refine st ?_
          simp
          have r32 := (lexer_scanner_token_2_ok 0 5 w1 v30 q31).frame [1, 0] [[.str w1.s, .int .i64 w1.at_], [.mptr 0 0], [.int .i64 0, .str ([] : List UInt8), .int .i64 0, .int .i64 0]] (by simp)
          try simp [] at r32
          refine callRaw r32 (by simp []) rfl ?_
          simp
        refine awp_ret ?_
        refine ret_blk ?_
        refine ret_seq ?_
        refine ret_blk ?_
        refine ret_seq ?_
        obtain rfl := Option.some.inj h
        simp
      · have c33 := ltF g28
        refine condF rfl g28 ?_
        obtain ⟨v34, q35, h⟩ := bs h
        refine cut 188 1 [(2, .mptr 2 0), (6, .fn (.func 103) [] [.mptr 1 0]), (9, .int .i64 v16), (10, .str s18), (63, .bool v34)] [[.str w1.s, .int .i64 w1.at_], [.mptr 0 0], [.int .i64 0, .str ([] : List UInt8), .int .i64 0, .int .i64 0]] ?_ ?_
        · refine st ?_
          simp
          have r43 := lexer_small_ok c6 v34 q35
          try simp [] at r43
          refine callPure r43 (by simp) rfl ?_
          simp
        rcases sp h with ⟨g36, h⟩ | ⟨g36, h⟩
        · refine condT rfl g36 ?_
          obtain ⟨v37, q38, h⟩ := bs h
          refine cut 188 1 [(2, .mptr 2 0), (3, .int .i64 v37.2.1), (4, .int .i64 v37.2.2.1)] [[.str v37.2.2.2.s, .int .i64 v37.2.2.2.at_], [.mptr 0 0], [.int .i64 v37.1.Kind, .str v37.1.Text, .int .i64 v37.1.At.Line, .int .i64 v37.1.At.Column]] ?_ ?_
          · refine st ?_
            simp
            have r39 := (lexer_scanner_token_1_ok 1 v16 s18 w1 v37 q38).frame [1, 0] [[.str w1.s, .int .i64 w1.at_], [.mptr 0 0], [.int .i64 0, .str ([] : List UInt8), .int .i64 0, .int .i64 0]] (by simp)
            try simp [] at r39
            refine callRaw r39 (by simp []) rfl ?_
            simp
          refine awp_ret ?_
          refine ret_blk ?_
          refine ret_seq ?_
          refine ret_blk ?_
          refine ret_seq ?_
          obtain rfl := Option.some.inj h
          simp
        · refine condF rfl g36 ?_
          refine awp_skip ?_
          refine blk_n ?_
          refine seq_eq ?_
          obtain ⟨v40, q41, h⟩ := bs h
          refine cut 188 1 [(2, .mptr 2 0), (3, .int .i64 v40.2.1), (4, .int .i64 v40.2.2.1)] [[.str v40.2.2.2.s, .int .i64 v40.2.2.2.at_], [.mptr 0 0], [.int .i64 v40.1.Kind, .str v40.1.Text, .int .i64 v40.1.At.Line, .int .i64 v40.1.At.Column]] ?_ ?_
          · refine st ?_
            simp
            have r42 := (lexer_scanner_token_1_ok 2 v16 s18 w1 v40 q41).frame [1, 0] [[.str w1.s, .int .i64 w1.at_], [.mptr 0 0], [.int .i64 0, .str ([] : List UInt8), .int .i64 0, .int .i64 0]] (by simp)
            try simp [] at r42
            refine callRaw r42 (by simp []) rfl ?_
            simp
          refine awp_ret ?_
          refine ret_blk ?_
          refine ret_seq ?_
          obtain rfl := Option.some.inj h
          simp
  · refine condF rfl g15 ?_
    refine cut 188 1 [(2, .mptr 2 0), (5, .str s2), (6, .fn (.func 103) [] [.mptr 1 0]), (7, .fn (.func 104) [] [.mptr 1 0]), (8, .int .u8 (c6.toNat : Int)), (80, .bool (eqI (c6.toNat : Int) 39))] [[.str w1.s, .int .i64 w1.at_], [.mptr 0 0], [.int .i64 0, .str ([] : List UInt8), .int .i64 0, .int .i64 0]] ?_ ?_
    · refine st ?_
      simp
    rcases sp h with ⟨g46, h⟩ | ⟨g46, h⟩
    · have c47 := eqT g46
      refine condT rfl g46 ?_
      refine awp_seq ?_
      obtain ⟨b57, q58, h⟩ := bs h
      refine cut 188 1 [(2, .mptr 2 0), (5, .str s2), (6, .fn (.func 103) [] [.mptr 1 0]), (7, .fn (.func 104) [] [.mptr 1 0]), (91, .bool b57)] [[.str w1.s, .int .i64 w1.at_], [.mptr 0 0], [.int .i64 0, .str ([] : List UInt8), .int .i64 0, .int .i64 0]] ?_ ?_
      · rcases sp q58 with ⟨g48, q58⟩ | ⟨g48, q58⟩
        · have c49 := ltT g48
          refine factS 5 rfl fun f50 => ?_
          obtain rfl := Option.some.inj q58
          refine st ?_
          simp [g48]
        · have c51 := ltF g48
          refine factS 5 rfl fun f52 => ?_
          obtain ⟨c53, q54, q58⟩ := bs q58
          obtain ⟨v55, q56, q58⟩ := bs q58
          obtain rfl := Option.some.inj q58
          refine st ?_
          simp [g48, q54]
          have r88 := lexer_small_ok c53 v55 q56
          try simp [g48, q54] at r88
          refine callPure r88 (by simp) rfl ?_
          simp [g48, q54]
      rcases sp h with ⟨g59, h⟩ | ⟨g59, h⟩
      · refine condT rfl g59 ?_
        obtain ⟨v60, q61, h⟩ := bs h
        refine cut 188 1 [(2, .mptr 2 0), (3, .int .i64 v60.2.1), (4, .int .i64 v60.2.2)] [[.str w1.s, .int .i64 w1.at_], [.mptr 0 0], [.int .i64 v60.1.Kind, .str v60.1.Text, .int .i64 v60.1.At.Line, .int .i64 v60.1.At.Column]] ?_ ?_
        · refine st ?_
          simp
          have r62 := (lexer_scanner_token_2_ok 0 3 w1 v60 q61).frame [1, 0] [[.str w1.s, .int .i64 w1.at_], [.mptr 0 0], [.int .i64 0, .str ([] : List UInt8), .int .i64 0, .int .i64 0]] (by simp)
          try simp [] at r62
          refine callRaw r62 (by simp []) rfl ?_
          simp
        refine awp_ret ?_
        refine ret_seq ?_
        refine ret_blk ?_
        refine ret_seq ?_
        obtain rfl := Option.some.inj h
        simp
      · refine condF rfl g59 ?_
        refine awp_skip ?_
        refine seq_eq ?_
        obtain ⟨s63, q64, h⟩ := bs h
        obtain ⟨q65, q66⟩ := subC_ok q64
        try simp at q65
        try simp at q66
        obtain ⟨v67, q68, h⟩ := bs h
        obtain ⟨n69, q70, h⟩ := bs h
        obtain ⟨q71, q72⟩ := chk_ok q70
        try simp at q71
        try simp at q72
        have c73 := q71; simp only [Rng, inR] at c73
        refine cut 188 1 [(2, .mptr 2 0), (5, .str s2), (6, .fn (.func 103) [] [.mptr 1 0]), (7, .fn (.func 104) [] [.mptr 1 0]), (11, .int .i64 n69)] [[.str w1.s, .int .i64 w1.at_], [.mptr 0 0], [.int .i64 0, .str ([] : List UInt8), .int .i64 0, .int .i64 0]] ?_ ?_
        · refine st ?_
          simp [q65, q66, q71, q72]
          have r87 := lexer_length_inner_ok fuel s63 v67 q68
          try simp [q65, q66, q71, q72] at r87
          refine callPure r87 (by simp) rfl ?_
          simp [q65, q66, q71, q72]
        refine awp_seq ?_
        refine cut 188 1 [(2, .mptr 2 0), (5, .str s2), (6, .fn (.func 103) [] [.mptr 1 0]), (7, .fn (.func 104) [] [.mptr 1 0]), (11, .int .i64 n69), (102, .bool (ltI 24 n69))] [[.str w1.s, .int .i64 w1.at_], [.mptr 0 0], [.int .i64 0, .str ([] : List UInt8), .int .i64 0, .int .i64 0]] ?_ ?_
        · refine st ?_
          simp
        rcases sp h with ⟨g74, h⟩ | ⟨g74, h⟩
        · have c75 := ltT g74
          refine condT rfl g74 ?_
          obtain ⟨v76, q77, h⟩ := bs h
          refine cut 188 1 [(2, .mptr 2 0), (3, .int .i64 v76.2.1), (4, .int .i64 v76.2.2)] [[.str w1.s, .int .i64 w1.at_], [.mptr 0 0], [.int .i64 v76.1.Kind, .str v76.1.Text, .int .i64 v76.1.At.Line, .int .i64 v76.1.At.Column]] ?_ ?_
          · refine st ?_
            simp
            have r78 := (lexer_scanner_token_2_ok 0 5 w1 v76 q77).frame [1, 0] [[.str w1.s, .int .i64 w1.at_], [.mptr 0 0], [.int .i64 0, .str ([] : List UInt8), .int .i64 0, .int .i64 0]] (by simp)
            try simp [] at r78
            refine callRaw r78 (by simp []) rfl ?_
            simp
          refine awp_ret ?_
          refine ret_seq ?_
          refine ret_blk ?_
          refine ret_seq ?_
          obtain rfl := Option.some.inj h
          simp
        · have c79 := ltF g74
          refine condF rfl g74 ?_
          refine awp_skip ?_
          refine seq_eq ?_
          obtain ⟨s80, q81, h⟩ := bs h
          obtain ⟨q82, q83⟩ := subC_ok q81
          try simp at q82
          try simp at q83
          obtain ⟨v84, q85, h⟩ := bs h
          refine cut 188 1 [(2, .mptr 2 0), (3, .int .i64 v84.2.1), (4, .int .i64 v84.2.2.1)] [[.str v84.2.2.2.s, .int .i64 v84.2.2.2.at_], [.mptr 0 0], [.int .i64 v84.1.Kind, .str v84.1.Text, .int .i64 v84.1.At.Line, .int .i64 v84.1.At.Column]] ?_ ?_
          · refine st ?_
            simp [q82, q83]
            have r86 := (lexer_scanner_token_1_ok 3 n69 s80 w1 v84 q85).frame [1, 0] [[.str w1.s, .int .i64 w1.at_], [.mptr 0 0], [.int .i64 0, .str ([] : List UInt8), .int .i64 0, .int .i64 0]] (by simp)
            try simp [q82, q83] at r86
            refine callRaw r86 (by simp [q82, q83]) rfl ?_
            simp [q82, q83]
          refine awp_ret ?_
          refine ret_blk ?_
          refine ret_seq ?_
          obtain rfl := Option.some.inj h
          simp
    · have c89 := eqF g46
      refine condF rfl g46 ?_
      obtain ⟨v90, q91, h⟩ := bs h
      refine cut 188 1 [(2, .mptr 2 0), (5, .str s2), (6, .fn (.func 103) [] [.mptr 1 0]), (7, .fn (.func 104) [] [.mptr 1 0]), (8, .int .u8 (c6.toNat : Int)), (117, .bool v90)] [[.str w1.s, .int .i64 w1.at_], [.mptr 0 0], [.int .i64 0, .str ([] : List UInt8), .int .i64 0, .int .i64 0]] ?_ ?_
      · refine st ?_
        simp
        have r141 := lexer_digit_ok c6 v90 q91
        try simp [] at r141
        refine callPure r141 (by simp) rfl ?_
        simp
      rcases sp h with ⟨g92, h⟩ | ⟨g92, h⟩
      · refine condT rfl g92 ?_
        obtain ⟨v93, q94, h⟩ := bs h
        refine cut 188 1 [(2, .mptr 2 0), (5, .str s2), (6, .fn (.func 103) [] [.mptr 1 0]), (7, .fn (.func 104) [] [.mptr 1 0]), (12, .int .i64 v93)] [[.str w1.s, .int .i64 w1.at_], [.mptr 0 0], [.int .i64 0, .str ([] : List UInt8), .int .i64 0, .int .i64 0]] ?_ ?_
        · refine st ?_
          simp
          have r113 := lexer_length_digit_ok fuel s2 v93 q94
          try simp [] at r113
          refine callPure r113 (by simp) rfl ?_
          simp
        refine awp_seq ?_
        obtain ⟨s95, q96, h⟩ := bs h
        obtain ⟨q97, q98⟩ := subC_ok q96
        try simp at q97
        try simp at q98
        obtain ⟨v99, q100, h⟩ := bs h
        refine cut 188 1 [(2, .mptr 2 0), (5, .str s2), (6, .fn (.func 103) [] [.mptr 1 0]), (7, .fn (.func 104) [] [.mptr 1 0]), (12, .int .i64 v93), (13, .int .i64 v99)] [[.str w1.s, .int .i64 w1.at_], [.mptr 0 0], [.int .i64 0, .str ([] : List UInt8), .int .i64 0, .int .i64 0]] ?_ ?_
        · refine st ?_
          simp [q97, q98]
          have r112 := lexer_number_ok fuel s95 v99 q100
          try simp [q97, q98] at r112
          refine callPure r112 (by simp) rfl ?_
          simp [q97, q98]
        refine cut 188 1 [(2, .mptr 2 0), (5, .str s2), (6, .fn (.func 103) [] [.mptr 1 0]), (7, .fn (.func 104) [] [.mptr 1 0]), (12, .int .i64 v93), (13, .int .i64 v99), (127, .bool (!(eqI v99 0)))] [[.str w1.s, .int .i64 w1.at_], [.mptr 0 0], [.int .i64 0, .str ([] : List UInt8), .int .i64 0, .int .i64 0]] ?_ ?_
        · refine st ?_
          simp
        rcases sp h with ⟨g101, h⟩ | ⟨g101, h⟩
        · have g102 := notT g101
          have c103 := eqF g102
          refine condT rfl g101 ?_
          obtain ⟨v104, q105, h⟩ := bs h
          refine cut 188 1 [(2, .mptr 2 0), (3, .int .i64 v104.2.1), (4, .int .i64 v104.2.2)] [[.str w1.s, .int .i64 w1.at_], [.mptr 0 0], [.int .i64 v104.1.Kind, .str v104.1.Text, .int .i64 v104.1.At.Line, .int .i64 v104.1.At.Column]] ?_ ?_
          · refine st ?_
            simp
            have r106 := (lexer_scanner_token_2_ok 0 v99 w1 v104 q105).frame [1, 0] [[.str w1.s, .int .i64 w1.at_], [.mptr 0 0], [.int .i64 0, .str ([] : List UInt8), .int .i64 0, .int .i64 0]] (by simp)
            try simp [] at r106
            refine callRaw r106 (by simp []) rfl ?_
            simp
          refine awp_ret ?_
          refine ret_seq ?_
          refine ret_blk ?_
          refine ret_seq ?_
          obtain rfl := Option.some.inj h
          simp
        · have g107 := notF g101
          have c108 := eqT g107
          refine condF rfl g101 ?_
          refine awp_skip ?_
          refine seq_eq ?_
          obtain ⟨v109, q110, h⟩ := bs h
          refine cut 188 1 [(2, .mptr 2 0), (3, .int .i64 v109.2.1), (4, .int .i64 v109.2.2.1)] [[.str v109.2.2.2.s, .int .i64 v109.2.2.2.at_], [.mptr 0 0], [.int .i64 v109.1.Kind, .str v109.1.Text, .int .i64 v109.1.At.Line, .int .i64 v109.1.At.Column]] ?_ ?_
          · refine st ?_
            simp [q97, q98]
            have r111 := (lexer_scanner_token_1_ok 4 v93 s95 w1 v109 q110).frame [1, 0] [[.str w1.s, .int .i64 w1.at_], [.mptr 0 0], [.int .i64 0, .str ([] : List UInt8), .int .i64 0, .int .i64 0]] (by simp)
            try simp [q97, q98] at r111
            refine callRaw r111 (by simp [q97, q98]) rfl ?_
            simp [q97, q98]
          refine awp_ret ?_
          refine ret_blk ?_
          refine ret_seq ?_
          obtain rfl := Option.some.inj h
          simp
      · refine condF rfl g92 ?_
        refine cut 188 1 [(2, .mptr 2 0), (5, .str s2), (6, .fn (.func 103) [] [.mptr 1 0]), (7, .fn (.func 104) [] [.mptr 1 0]), (143, .bool (eqI (c6.toNat : Int) 34))] [[.str w1.s, .int .i64 w1.at_], [.mptr 0 0], [.int .i64 0, .str ([] : List UInt8), .int .i64 0, .int .i64 0]] ?_ ?_
        · refine st ?_
          simp
        rcases sp h with ⟨g114, h⟩ | ⟨g114, h⟩
        · have c115 := eqT g114
          refine condT rfl g114 ?_
          obtain ⟨v116, q117, h⟩ := bs h
          refine cut 188 1 [(2, .mptr 2 0), (6, .fn (.func 103) [] [.mptr 1 0]), (7, .fn (.func 104) [] [.mptr 1 0]), (14, .str v116.1), (15, .int .i64 v116.2.1), (16, .int .i64 v116.2.2.1), (17, .int .i64 v116.2.2.2)] [[.str w1.s, .int .i64 w1.at_], [.mptr 0 0], [.int .i64 0, .str ([] : List UInt8), .int .i64 0, .int .i64 0]] ?_ ?_
          · refine st ?_
            simp
            have r129 := lexer_literal_ok fuel s2 v116 q117
            try simp [] at r129
            refine callPure r129 (by simp) rfl ?_
            simp
          refine awp_seq ?_
          refine cut 188 1 [(2, .mptr 2 0), (6, .fn (.func 103) [] [.mptr 1 0]), (7, .fn (.func 104) [] [.mptr 1 0]), (14, .str v116.1), (15, .int .i64 v116.2.1), (16, .int .i64 v116.2.2.1), (17, .int .i64 v116.2.2.2), (154, .bool (!(eqI v116.2.2.2 0)))] [[.str w1.s, .int .i64 w1.at_], [.mptr 0 0], [.int .i64 0, .str ([] : List UInt8), .int .i64 0, .int .i64 0]] ?_ ?_
          · refine st ?_
            simp
          rcases sp h with ⟨g118, h⟩ | ⟨g118, h⟩
          · have g119 := notT g118
            have c120 := eqF g119
            refine condT rfl g118 ?_
            obtain ⟨v121, q122, h⟩ := bs h
            refine cut 188 1 [(2, .mptr 2 0), (3, .int .i64 v121.2.1), (4, .int .i64 v121.2.2)] [[.str w1.s, .int .i64 w1.at_], [.mptr 0 0], [.int .i64 v121.1.Kind, .str v121.1.Text, .int .i64 v121.1.At.Line, .int .i64 v121.1.At.Column]] ?_ ?_
            · refine st ?_
              simp
              have r123 := (lexer_scanner_token_2_ok v116.2.2.1 v116.2.2.2 w1 v121 q122).frame [1, 0] [[.str w1.s, .int .i64 w1.at_], [.mptr 0 0], [.int .i64 0, .str ([] : List UInt8), .int .i64 0, .int .i64 0]] (by simp)
              try simp [] at r123
              refine callRaw r123 (by simp []) rfl ?_
              simp
            refine awp_ret ?_
            refine ret_seq ?_
            refine ret_blk ?_
            refine ret_seq ?_
            obtain rfl := Option.some.inj h
            simp
          · have g124 := notF g118
            have c125 := eqT g124
            refine condF rfl g118 ?_
            refine awp_skip ?_
            refine seq_eq ?_
            obtain ⟨v126, q127, h⟩ := bs h
            refine cut 188 1 [(2, .mptr 2 0), (3, .int .i64 v126.2.1), (4, .int .i64 v126.2.2.1)] [[.str v126.2.2.2.s, .int .i64 v126.2.2.2.at_], [.mptr 0 0], [.int .i64 v126.1.Kind, .str v126.1.Text, .int .i64 v126.1.At.Line, .int .i64 v126.1.At.Column]] ?_ ?_
            · refine st ?_
              simp
              have r128 := (lexer_scanner_token_1_ok 5 v116.2.1 v116.1 w1 v126 q127).frame [1, 0] [[.str w1.s, .int .i64 w1.at_], [.mptr 0 0], [.int .i64 0, .str ([] : List UInt8), .int .i64 0, .int .i64 0]] (by simp)
              try simp [] at r128
              refine callRaw r128 (by simp []) rfl ?_
              simp
            refine awp_ret ?_
            refine ret_blk ?_
            refine ret_seq ?_
            obtain rfl := Option.some.inj h
            simp
        · have c130 := eqF g114
          refine condF rfl g114 ?_
          refine awp_skip ?_
          refine blk_n ?_
          refine seq_eq ?_
          refine awp_seq ?_
          obtain ⟨v131, q132, h⟩ := bs h
          refine cut 188 1 [(2, .mptr 2 0), (6, .fn (.func 103) [] [.mptr 1 0]), (7, .fn (.func 104) [] [.mptr 1 0]), (18, .str v131.1), (19, .bool v131.2)] [[.str w1.s, .int .i64 w1.at_], [.mptr 0 0], [.int .i64 0, .str ([] : List UInt8), .int .i64 0, .int .i64 0]] ?_ ?_
          · refine st ?_
            simp
            have r140 := lexer_Symbol_ok fuel s2 v131 q132
            try simp [] at r140
            refine callPure r140 (by simp) rfl ?_
            simp
          refine cut 188 1 [(2, .mptr 2 0), (6, .fn (.func 103) [] [.mptr 1 0]), (7, .fn (.func 104) [] [.mptr 1 0]), (18, .str v131.1), (174, .bool v131.2)] [[.str w1.s, .int .i64 w1.at_], [.mptr 0 0], [.int .i64 0, .str ([] : List UInt8), .int .i64 0, .int .i64 0]] ?_ ?_
          · refine st ?_
            simp
          rcases sp h with ⟨g133, h⟩ | ⟨g133, h⟩
          · refine condT rfl g133 ?_
            obtain ⟨v134, q135, h⟩ := bs h
            refine cut 188 1 [(2, .mptr 2 0), (3, .int .i64 v134.2.1), (4, .int .i64 v134.2.2.1)] [[.str v134.2.2.2.s, .int .i64 v134.2.2.2.at_], [.mptr 0 0], [.int .i64 v134.1.Kind, .str v134.1.Text, .int .i64 v134.1.At.Line, .int .i64 v134.1.At.Column]] ?_ ?_
            · refine st ?_
              simp
              have r136 := (lexer_scanner_token_1_ok 7 (v131.1.length : Int) v131.1 w1 v134 q135).frame [1, 0] [[.str w1.s, .int .i64 w1.at_], [.mptr 0 0], [.int .i64 0, .str ([] : List UInt8), .int .i64 0, .int .i64 0]] (by simp)
              try simp [] at r136
              refine callRaw r136 (by simp []) rfl ?_
              simp
            refine awp_ret ?_
            refine ret_seq ?_
            obtain rfl := Option.some.inj h
            simp
          · refine condF rfl g133 ?_
            refine awp_skip ?_
            refine seq_eq ?_
            obtain ⟨v137, q138, h⟩ := bs h
            refine cut 188 1 [(2, .mptr 2 0), (3, .int .i64 v137.2.1), (4, .int .i64 v137.2.2)] [[.str w1.s, .int .i64 w1.at_], [.mptr 0 0], [.int .i64 v137.1.Kind, .str v137.1.Text, .int .i64 v137.1.At.Line, .int .i64 v137.1.At.Column]] ?_ ?_
            · refine st ?_
              simp
              have r139 := (lexer_scanner_token_2_ok 0 3 w1 v137 q138).frame [1, 0] [[.str w1.s, .int .i64 w1.at_], [.mptr 0 0], [.int .i64 0, .str ([] : List UInt8), .int .i64 0, .int .i64 0]] (by simp)
              try simp [] at r139
              refine callRaw r139 (by simp []) rfl ?_
              simp
            refine awp_ret ?_
            obtain rfl := Option.some.inj h
            simp
end Go.Proofs.Ythbjlmoaceaeeaa
set_option linter.unusedVariables false
set_option linter.unusedSimpArgs false
set_option maxRecDepth 100000
set_option maxHeartbeats 1000000
namespace Go.Proofs.Ythbjlmoaceaeeaa
open Go Go.Abs
theorem lexer_Tokens_ok (fuel : Nat) (a1 : (List UInt8)) (r : (List Api.Token) × Api.Pos × Int) (h : M.lexer_Tokens fuel a1 = some r) : Pure Try.prog 30 [.str a1] (.tup [.sl (r.1.map Api.Token.c), .agg [.int .i64 r.2.1.Line, .int .i64 r.2.1.Column], .int .i64 r.2.2]) := by
  rw [M.lexer_Tokens] at h
  refine pure_of_body Try.func30 (by rfl) (by rfl) (by simp) (by simp) (by simp) ?_
  refine cut 71 0 [(0, .str a1), (3, .mptr 0 0)] [[.int .i64 0, .int .i64 0]] ?_ ?_
  · refine st ?_
    simp
  refine awp_seq ?_
  refine cut 71 0 [(0, .str a1), (3, .mptr 0 0), (14, .bool (ltI 16384 (a1.length : Int)))] [[.int .i64 0, .int .i64 0]] ?_ ?_
  · refine st ?_
    simp
  rcases sp h with ⟨g2, h⟩ | ⟨g2, h⟩
  · have c3 := ltT g2
    refine condT rfl g2 ?_
    refine factS 0 rfl fun f4 => ?_
    refine cut 71 0 [(2, .osl ⟨4, 75⟩ (([] : List Api.Token).map Api.Token.c)), (3, .mptr 0 0), (4, .int .i64 5)] [[.int .i64 0, .int .i64 0]] ?_ ?_
    · refine st ?_
      simp
    refine awp_ret ?_
    refine ret_seq ?_
    obtain rfl := Option.some.inj h
    simp
  · have c5 := ltF g2
    refine condF rfl g2 ?_
    refine factS 0 rfl fun f6 => ?_
    refine awp_skip ?_
    refine seq_eq ?_
    refine cut 71 0 [(0, .str a1), (3, .mptr 0 0), (5, .mptr 1 0)] [[.int .i64 0, .int .i64 0], [.str a1, .int .i64 0]] ?_ ?_
    · refine st ?_
      simp
    refine cut 71 0 [(0, .str a1), (3, .mptr 0 0), (5, .mptr 1 0), (6, .osl ⟨4, 75⟩ (([] : List Api.Token).map Api.Token.c))] [[.int .i64 0, .int .i64 0], [.str a1, .int .i64 0]] ?_ ?_
    · refine st ?_
      simp
    refine awp_block ?_
    refine awp_inv (fun p : Nat × (List UInt8) × Int × (List Api.Token) => mkS 71 0 [(0, .str a1), (3, .mptr 0 0), (5, .mptr 1 0), (6, .osl ⟨4, 75⟩ (p.2.2.2.map Api.Token.c))] [[.int .i64 0, .int .i64 0], [.str p.2.1, .int .i64 p.2.2.1]]) (fun p => M.lexer_Tokens_l1 fuel a1 p.1 p.2.1 p.2.2.1 p.2.2.2 = some r) (fun p => p.1) (fuel, a1, 0, ([] : List Api.Token)) h (le_mkS (by simp)) ?_
    rintro ⟨k11, s7, at8, i9⟩ h
    dsimp only at h ⊢
    cases k11 with
    | zero =>
      rw [M.lexer_Tokens_l1] at h; cases h
    | succ k12 =>
      rw [M.lexer_Tokens_l1] at h
      refine awp_block ?_
      refine awp_seq ?_
      obtain ⟨v13, q14, h⟩ := bs h
      refine cut 71 0 [(0, .str a1), (3, .mptr 0 0), (5, .mptr 1 0), (6, .osl ⟨4, 75⟩ (i9.map Api.Token.c)), (7, .int .i64 v13.1)] [[.int .i64 0, .int .i64 0], [.str v13.2.s, .int .i64 v13.2.at_]] ?_ ?_
      · refine st ?_
        simp
        have r55 := (lexer_scanner_skip_ok fuel (Lexer.scanner.mk s7 at8) v13 q14).frame [1] [[.int .i64 0, .int .i64 0], [.str s7, .int .i64 at8]] (by simp)
        try simp [] at r55
        refine callRaw r55 (by simp []) rfl ?_
        simp
      refine cut 71 0 [(0, .str a1), (3, .mptr 0 0), (5, .mptr 1 0), (6, .osl ⟨4, 75⟩ (i9.map Api.Token.c)), (7, .int .i64 v13.1), (22, .bool (leI 0 v13.1))] [[.int .i64 0, .int .i64 0], [.str v13.2.s, .int .i64 v13.2.at_]] ?_ ?_
      · refine st ?_
        simp
      rcases sp h with ⟨g15, h⟩ | ⟨g15, h⟩
      · have c16 := leT g15
        refine condT rfl g15 ?_
        obtain ⟨v17, q18, h⟩ := bs h
        refine cut 71 0 [(2, .osl ⟨4, 75⟩ (([] : List Api.Token).map Api.Token.c)), (3, .mptr 0 0), (4, .int .i64 4)] [[.int .i64 v17.Line, .int .i64 v17.Column], [.str v13.2.s, .int .i64 v13.2.at_]] ?_ ?_
        · refine st ?_
          simp
          have r19 := lexer_place_ok fuel a1 v13.1 v17 q18
          try simp [] at r19
          refine callPure r19 (by simp) rfl ?_
          simp
        refine awp_ret ?_
        refine ret_seq ?_
        refine ret_blk ?_
        refine ret_seq ?_
        refine ret_blk ?_
        obtain rfl := Option.some.inj h
        simp
      · have c20 := leF g15
        refine condF rfl g15 ?_
        refine awp_skip ?_
        refine seq_eq ?_
        refine cut 71 0 [(0, .str a1), (3, .mptr 0 0), (5, .mptr 1 0), (6, .osl ⟨4, 75⟩ (i9.map Api.Token.c)), (8, .int .i64 v13.2.at_)] [[.int .i64 0, .int .i64 0], [.str v13.2.s, .int .i64 v13.2.at_]] ?_ ?_
        · refine st ?_
          simp
        refine awp_seq ?_
        refine awp_block ?_
        refine cut 71 0 [(0, .str a1), (3, .mptr 0 0), (5, .mptr 1 0), (6, .osl ⟨4, 75⟩ (i9.map Api.Token.c)), (8, .int .i64 v13.2.at_), (30, .bool (leI (a1.length : Int) v13.2.at_))] [[.int .i64 0, .int .i64 0], [.str v13.2.s, .int .i64 v13.2.at_]] ?_ ?_
        · refine st ?_
          simp
        rcases sp h with ⟨g21, h⟩ | ⟨g21, h⟩
        · have c22 := leT g21
          refine condT rfl g21 ?_
          obtain ⟨v23, q24, h⟩ := bs h
          obtain ⟨l25, q26, h⟩ := bs h
          obtain ⟨q27, q28⟩ := app_ok q26
          try simp at q27
          refine cut 71 0 [(2, .osl ⟨4, 75⟩ (l25.map Api.Token.c)), (3, .mptr 0 0), (4, .int .i64 0)] [[.int .i64 0, .int .i64 0], [.str v13.2.s, .int .i64 v13.2.at_]] ?_ ?_
          · refine st ?_
            simp [q27, q28]
            have r29 := lexer_place_ok fuel a1 (a1.length : Int) v23 q24
            try simp [q27, q28] at r29
            refine callPure r29 (by simp) rfl ?_
            simp [q27, q28]
          refine awp_ret ?_
          refine ret_blk ?_
          refine ret_seq ?_
          refine ret_blk ?_
          refine ret_seq ?_
          refine ret_blk ?_
          obtain rfl := Option.some.inj h
          simp
        · have c30 := leF g21
          refine condF rfl g21 ?_
          refine cut 71 0 [(0, .str a1), (3, .mptr 0 0), (5, .mptr 1 0), (6, .osl ⟨4, 75⟩ (i9.map Api.Token.c)), (8, .int .i64 v13.2.at_), (44, .bool (eqI (i9.length : Int) 20000))] [[.int .i64 0, .int .i64 0], [.str v13.2.s, .int .i64 v13.2.at_]] ?_ ?_
          · refine st ?_
            simp
          rcases sp h with ⟨g31, h⟩ | ⟨g31, h⟩
          · have c32 := eqT g31
            refine condT rfl g31 ?_
            obtain ⟨v33, q34, h⟩ := bs h
            refine cut 71 0 [(2, .osl ⟨4, 75⟩ (([] : List Api.Token).map Api.Token.c)), (3, .mptr 0 0), (4, .int .i64 5)] [[.int .i64 v33.Line, .int .i64 v33.Column], [.str v13.2.s, .int .i64 v13.2.at_]] ?_ ?_
            · refine st ?_
              simp
              have r35 := lexer_place_ok fuel a1 v13.2.at_ v33 q34
              try simp [] at r35
              refine callPure r35 (by simp) rfl ?_
              simp
            refine awp_ret ?_
            refine ret_blk ?_
            refine ret_seq ?_
            refine ret_blk ?_
            refine ret_seq ?_
            refine ret_blk ?_
            obtain rfl := Option.some.inj h
            simp
          · have c36 := eqF g31
            refine condF rfl g31 ?_
            refine awp_skip ?_
            refine blk_n ?_
            refine seq_eq ?_
            obtain ⟨v37, q38, h⟩ := bs h
            refine cut 71 0 [(0, .str a1), (3, .mptr 0 0), (5, .mptr 1 0), (6, .osl ⟨4, 75⟩ (i9.map Api.Token.c)), (8, .int .i64 v13.2.at_), (9, .mptr 2 0), (10, .int .i64 v37.2.1), (11, .int .i64 v37.2.2.1)] [[.int .i64 0, .int .i64 0], [.str v37.2.2.2.s, .int .i64 v37.2.2.2.at_], [.int .i64 v37.1.Kind, .str v37.1.Text, .int .i64 v37.1.At.Line, .int .i64 v37.1.At.Column]] ?_ ?_
            · refine st ?_
              simp
              have r54 := (lexer_scanner_token_ok fuel v13.2 v37 q38).frame [1] [[.int .i64 0, .int .i64 0], [.str v13.2.s, .int .i64 v13.2.at_]] (by simp)
              try simp [] at r54
              refine callRaw r54 (by simp []) rfl ?_
              simp
            refine awp_seq ?_
            refine cut 71 0 [(0, .str a1), (3, .mptr 0 0), (5, .mptr 1 0), (6, .osl ⟨4, 75⟩ (i9.map Api.Token.c)), (8, .int .i64 v13.2.at_), (9, .mptr 2 0), (10, .int .i64 v37.2.1), (11, .int .i64 v37.2.2.1), (58, .bool (!(eqI v37.2.2.1 0)))] [[.int .i64 0, .int .i64 0], [.str v37.2.2.2.s, .int .i64 v37.2.2.2.at_], [.int .i64 v37.1.Kind, .str v37.1.Text, .int .i64 v37.1.At.Line, .int .i64 v37.1.At.Column]] ?_ ?_
            · refine st ?_
              simp
            rcases sp h with ⟨g39, h⟩ | ⟨g39, h⟩
            · have g40 := notT g39
              have c41 := eqF g40
              refine condT rfl g39 ?_
              obtain ⟨v42, q43, h⟩ := bs h
              refine cut 71 0 [(2, .osl ⟨4, 75⟩ (([] : List Api.Token).map Api.Token.c)), (3, .mptr 0 0), (4, .int .i64 v37.2.2.1)] [[.int .i64 v42.Line, .int .i64 v42.Column], [.str v37.2.2.2.s, .int .i64 v37.2.2.2.at_], [.int .i64 v37.1.Kind, .str v37.1.Text, .int .i64 v37.1.At.Line, .int .i64 v37.1.At.Column]] ?_ ?_
              · refine st ?_
                simp
                have r44 := lexer_place_ok fuel a1 v37.2.1 v42 q43
                try simp [] at r44
                refine callPure r44 (by simp) rfl ?_
                simp
              refine awp_ret ?_
              refine ret_seq ?_
              refine ret_blk ?_
              refine ret_seq ?_
              refine ret_blk ?_
              obtain rfl := Option.some.inj h
              simp
            · have g45 := notF g39
              have c46 := eqT g45
              refine condF rfl g39 ?_
              refine awp_skip ?_
              refine seq_eq ?_
              obtain ⟨v47, q48, h⟩ := bs h
              refine cut 71 0 [(0, .str a1), (3, .mptr 0 0), (5, .mptr 1 0), (6, .osl ⟨4, 75⟩ (i9.map Api.Token.c)), (9, .mptr 2 0)] [[.int .i64 0, .int .i64 0], [.str v37.2.2.2.s, .int .i64 v37.2.2.2.at_], [.int .i64 v37.1.Kind, .str v37.1.Text, .int .i64 v47.Line, .int .i64 v47.Column]] ?_ ?_
              · refine st ?_
                simp
                have r53 := lexer_place_ok fuel a1 v13.2.at_ v47 q48
                try simp [] at r53
                refine callPure r53 (by simp) rfl ?_
                simp
              obtain ⟨l49, q50, h⟩ := bs h
              obtain ⟨q51, q52⟩ := app_ok q50
              try simp at q51
              refine last 71 0 [(0, .str a1), (3, .mptr 0 0), (5, .mptr 1 0), (6, .osl ⟨4, 75⟩ (l49.map Api.Token.c))] [[.int .i64 0, .int .i64 0], [.str v37.2.2.2.s, .int .i64 v37.2.2.2.at_]] ?_ fun zz hs => ?_
              · refine st ?_
                simp [q51, q52]
              refine blk_n ?_
              exact ⟨(k12, v37.2.2.2.s, v37.2.2.2.at_, l49), hs, h, by simp⟩
end Go.Proofs.Ythbjlmoaceaeeaa
set_option linter.unusedVariables false
set_option linter.unusedSimpArgs false
set_option maxRecDepth 100000
set_option maxHeartbeats 1000000
namespace Go.Proofs.Ythbjlmoaceaeeaa
open Go Go.Abs
theorem law02_awake_ok (fuel : Nat) (r : Bool) (h : M.law02_awake fuel = some r) : Pure Try.prog 28 [] (.bool r) := by
  rw [M.law02_awake] at h
  refine pure_of_body Try.func28 (by rfl) (by rfl) (by simp) (by simp) (by simp) ?_
  refine cut 61 0 [] [] ?_ ?_
  · refine st ?_
    simp
  obtain ⟨v1, q2, h⟩ := bs h
  refine cut 61 0 [(1, .sl (v1.1.map Api.Token.c)), (3, .int .i64 v1.2.2)] [[.int .i64 v1.2.1.Line, .int .i64 v1.2.1.Column]] ?_ ?_
  · refine st ?_
    simp
    have r27 := lexer_Tokens_ok fuel [118, 97, 108, 32, 120, 32, 61, 32, 126, 32, 49, 32, 40, 42, 32, 111, 110, 101, 32, 42, 41] v1 q2
    try simp [] at r27
    refine callPure r27 (by simp) rfl ?_
    simp
  obtain ⟨v3, q4, h⟩ := bs h
  refine cut 61 0 [(1, .sl (v1.1.map Api.Token.c)), (3, .int .i64 v1.2.2), (5, .mptr 1 0), (6, .int .i64 v3.2.2)] [[.int .i64 v1.2.1.Line, .int .i64 v1.2.1.Column], [.int .i64 v3.2.1.Line, .int .i64 v3.2.1.Column]] ?_ ?_
  · refine st ?_
    simp
    have r26 := lexer_Tokens_ok fuel [97, 32, 33] v3 q4
    try simp [] at r26
    refine callPure r26 (by simp) rfl ?_
    simp
  obtain ⟨v5, q6, h⟩ := bs h
  refine cut 61 0 [(1, .sl (v1.1.map Api.Token.c)), (3, .int .i64 v1.2.2), (5, .mptr 1 0), (6, .int .i64 v3.2.2), (9, .int .i64 v5.2.2)] [[.int .i64 v1.2.1.Line, .int .i64 v1.2.1.Column], [.int .i64 v3.2.1.Line, .int .i64 v3.2.1.Column], [.int .i64 v5.2.1.Line, .int .i64 v5.2.1.Column]] ?_ ?_
  · refine st ?_
    simp
    have r25 := lexer_Tokens_ok fuel [48, 48, 55] v5 q6
    try simp [] at r25
    refine callPure r25 (by simp) rfl ?_
    simp
  obtain ⟨b23, q24, h⟩ := bs h
  refine cut 61 0 [(0, .bool b23)] [[.int .i64 v1.2.1.Line, .int .i64 v1.2.1.Column], [.int .i64 v3.2.1.Line, .int .i64 v3.2.1.Column], [.int .i64 v5.2.1.Line, .int .i64 v5.2.1.Column]] ?_ ?_
  · rcases sp q24 with ⟨g7, q24⟩ | ⟨g7, q24⟩
    · have c8 := eqT g7
      rcases sp q24 with ⟨g9, q24⟩ | ⟨g9, q24⟩
      · have c10 := eqT g9
        obtain ⟨x11, q12, q24⟩ := bs q24
        rcases sp q24 with ⟨g13, q24⟩ | ⟨g13, q24⟩
        · obtain ⟨x14, q15, q24⟩ := bs q24
          rcases sp q24 with ⟨g16, q24⟩ | ⟨g16, q24⟩
          · rcases sp q24 with ⟨g17, q24⟩ | ⟨g17, q24⟩
            · have c18 := eqT g17
              rcases sp q24 with ⟨g19, q24⟩ | ⟨g19, q24⟩
              · obtain rfl := Option.some.inj q24
                refine st ?_
                simp [g7, g9, q12, g13, q15, g16, g17, g19]
              · obtain rfl := Option.some.inj q24
                refine st ?_
                simp [g7, g9, q12, g13, q15, g16, g17, g19]
            · have c20 := eqF g17
              obtain rfl := Option.some.inj q24
              refine st ?_
              simp [g7, g9, q12, g13, q15, g16, g17]
          · obtain rfl := Option.some.inj q24
            refine st ?_
            simp [g7, g9, q12, g13, q15, g16]
        · obtain rfl := Option.some.inj q24
          refine st ?_
          simp [g7, g9, q12, g13]
      · have c21 := eqF g9
        obtain rfl := Option.some.inj q24
        refine st ?_
        simp [g7, g9]
    · have c22 := eqF g7
      obtain rfl := Option.some.inj q24
      refine st ?_
      simp [g7]
  refine awp_ret ?_
  obtain rfl := Option.some.inj h
  simp
end Go.Proofs.Ythbjlmoaceaeeaa
set_option linter.unusedVariables false
set_option linter.unusedSimpArgs false
set_option maxRecDepth 100000
set_option maxHeartbeats 1000000
namespace Go.Proofs.Ythbjlmoaceaeeaa
open Go Go.Abs
theorem law02_long_ok (s1 : (List UInt8)) (r : Bool) (h : M.law02_long s1 = some r) : Pure Try.prog 29 [.str s1] (.bool r) := by
  rw [M.law02_long] at h
  refine pure_of_body Try.func29 (by rfl) (by rfl) (by simp) (by simp) (by simp) ?_
  refine cut 16 0 [(0, .str s1)] [] ?_ ?_
  · refine st ?_
    simp
  refine cut 16 0 [(2, .bool (if ltI 1500 (s1.length : Int) then (leI (s1.length : Int) 16384) || (ltI 20000 (s1.length : Int)) else ltI 20000 (s1.length : Int)))] [] ?_ ?_
  · rcases tf (ltI 1500 (s1.length : Int)) with g2 | g2
    · have c3 := ltT g2
      refine factS 0 rfl fun f4 => ?_
      rcases tf (leI (s1.length : Int) 16384) with g5 | g5
      · have c6 := leT g5
        refine st ?_
        simp [g2, g5]
      · have c7 := leF g5
        refine st ?_
        simp [g2, g5]
    · have c8 := ltF g2
      refine factS 0 rfl fun f9 => ?_
      refine st ?_
      simp [g2]
  refine awp_ret ?_
  obtain rfl := Option.some.inj h
  simp
end Go.Proofs.Ythbjlmoaceaeeaa
set_option linter.unusedVariables false
set_option linter.unusedSimpArgs false
set_option maxRecDepth 100000
set_option maxHeartbeats 1000000
namespace Go.Proofs.Ythbjlmoaceaeeaa
open Go Go.Abs
theorem law02_many_1_ok (t1 : Api.Token) (r : Bool) (h : M.law02_many_1 t1 = some r) : Pure Try.prog 78 [.agg [.int .i64 t1.Kind, .str t1.Text, .int .i64 t1.At.Line, .int .i64 t1.At.Column]] (.bool r) := by
  rw [M.law02_many_1] at h
  refine pure_of_body Try.func78 (by rfl) (by rfl) (by simp) (by simp) (by simp) ?_
  refine cut 19 0 [(1, .mptr 0 0)] [[.int .i64 t1.Kind, .str t1.Text, .int .i64 t1.At.Line, .int .i64 t1.At.Column]] ?_ ?_
  · refine st ?_
    simp
  refine cut 19 0 [(2, .bool (if ltI 300 (t1.Text.length : Int) then (leI (t1.Text.length : Int) 16384) || (ltI 17000 (t1.Text.length : Int)) else ltI 17000 (t1.Text.length : Int)))] [[.int .i64 t1.Kind, .str t1.Text, .int .i64 t1.At.Line, .int .i64 t1.At.Column]] ?_ ?_
  · rcases tf (ltI 300 (t1.Text.length : Int)) with g2 | g2
    · have c3 := ltT g2
      refine factCS 0 1 rfl rfl fun f4 => ?_
      rcases tf (leI (t1.Text.length : Int) 16384) with g5 | g5
      · have c6 := leT g5
        refine st ?_
        simp [g2, g5]
      · have c7 := leF g5
        refine st ?_
        simp [g2, g5]
    · have c8 := ltF g2
      refine factCS 0 1 rfl rfl fun f9 => ?_
      refine st ?_
      simp [g2]
  refine awp_ret ?_
  obtain rfl := Option.some.inj h
  simp
end Go.Proofs.Ythbjlmoaceaeeaa
set_option linter.unusedVariables false
set_option linter.unusedSimpArgs false
set_option maxRecDepth 100000
set_option maxHeartbeats 1000000
namespace Go.Proofs.Ythbjlmoaceaeeaa
open Go Go.Abs
theorem slices_IndexFunc_api_Token_many_1_ok (fuel : Nat) (s1 : (List Api.Token)) (r : Int) (h : M.slices_IndexFunc_api_Token_many_1 fuel s1 = some r) : Pure Try.prog 125 [.sl (s1.map Api.Token.c), .fn (.func 78) [] []] (.int .i64 r) := by
  rw [M.slices_IndexFunc_api_Token_many_1] at h
  refine pure_of_body Try.func125 (by rfl) (by rfl) (by simp) (by simp) (by simp) ?_
  refine cut 19 0 [(0, .sl (s1.map Api.Token.c)), (1, .fn (.func 78) [] [])] [] ?_ ?_
  · refine st ?_
    simp
  refine awp_seq ?_
  refine cut 19 0 [(0, .sl (s1.map Api.Token.c)), (1, .fn (.func 78) [] []), (7, .int .i64 (s1.length : Int)), (8, .int .i64 0)] [] ?_ ?_
  · refine st ?_
    simp
  refine awp_block ?_
  obtain ⟨o4, l5, h⟩ := bs h
  refine awp_inv (fun p : Nat × Nat => mkS 19 0 [(0, .sl (s1.map Api.Token.c)), (1, .fn (.func 78) [] []), (7, .int .i64 (s1.length : Int)), (8, .int .i64 ((p.2 : Nat) : Int))] []) (fun p => M.slices_IndexFunc_api_Token_many_1_l1 s1 p.1 p.2 = some o4) (fun p => p.1) (fuel, 0) l5 (le_mkS (by simp)) ?_
  rintro ⟨k6, i2⟩ l5
  dsimp only at l5 ⊢
  cases k6 with
  | zero =>
    rw [M.slices_IndexFunc_api_Token_many_1_l1] at l5; cases l5
  | succ k7 =>
    rw [M.slices_IndexFunc_api_Token_many_1_l1] at l5
    refine cut 19 0 [(0, .sl (s1.map Api.Token.c)), (1, .fn (.func 78) [] []), (7, .int .i64 (s1.length : Int)), (8, .int .i64 ((i2 : Nat) : Int)), (9, .bool (ltI ((i2 : Nat) : Int) (s1.length : Int)))] [] ?_ ?_
    · refine st ?_
      simp
    refine awp_seq ?_
    rcases sp l5 with ⟨g8, l5⟩ | ⟨g8, l5⟩
    · have c9 := ltT g8
      refine condT rfl g8 ?_
      refine factL 0 rfl fun f10 => ?_
      rw [List.length_map] at f10
      refine awp_skip ?_
      refine seq_eq ?_
      refine awp_seq ?_
      refine awp_block ?_
      refine cut 19 0 [(0, .sl (s1.map Api.Token.c)), (1, .fn (.func 78) [] []), (5, .int .i64 ((i2 : Nat) : Int)), (7, .int .i64 (s1.length : Int)), (8, .int .i64 ((i2 : Nat) : Int))] [] ?_ ?_
      · refine st ?_
        simp
      obtain ⟨x11, q12, l5⟩ := bs l5
      obtain ⟨v13, q14, l5⟩ := bs l5
      refine cut 19 0 [(0, .sl (s1.map Api.Token.c)), (1, .fn (.func 78) [] []), (5, .int .i64 ((i2 : Nat) : Int)), (7, .int .i64 (s1.length : Int)), (8, .int .i64 ((i2 : Nat) : Int)), (16, .bool v13)] [] ?_ ?_
      · refine st ?_
        simp [q12]
        have r17 := law02_many_1_ok x11 v13 q14
        try simp [q12] at r17
        refine callPure r17 (by simp) rfl ?_
        simp [q12]
      rcases sp l5 with ⟨g15, l5⟩ | ⟨g15, l5⟩
      · refine condT rfl g15 ?_
        refine cut 19 0 [(4, .int .i64 ((i2 : Nat) : Int))] [] ?_ ?_
        · refine st ?_
          simp
        refine awp_ret ?_
        refine ret_blk ?_
        refine ret_seq ?_
        replace h := retL l5 h
        refine ret_seq ?_
        refine ret_blk ?_
        refine ret_seq ?_
        obtain rfl := Option.some.inj h
        simp
      · refine condF rfl g15 ?_
        refine awp_skip ?_
        refine blk_n ?_
        refine seq_eq ?_
        have q16 : Rng .i64 (((i2 : Nat) : Int) + 1) := by simp only [Rng, inR]; omega
        try simp at q16
        refine last 19 0 [(0, .sl (s1.map Api.Token.c)), (1, .fn (.func 78) [] []), (7, .int .i64 (s1.length : Int)), (8, .int .i64 ((i2 + 1 : Nat) : Int))] [] ?_ fun zz hs => ?_
        · refine st ?_
          simp [q16]
        exact ⟨(k7, i2 + 1), hs, l5, by simp⟩
    · have c18 := ltF g8
      refine condF rfl g8 ?_
      refine factL 0 rfl fun f19 => ?_
      rw [List.length_map] at f19
      refine awp_exit ?_
      refine exit_seq ?_
      rcases o4 with o4 | o3
      · cases l5
      have q20 := Sum.inr.inj (Option.some.inj l5)
      replace h := elimR h
      refine exit_seq ?_
      refine exit_blk ?_
      refine seq_le (t := mkS 19 0 [] []) ?_ (le_mkS (by simp []))
      refine cut 19 0 [(4, .int .i64 (-1))] [] ?_ ?_
      · refine st ?_
        simp
      refine awp_ret ?_
      obtain rfl := Option.some.inj h
      simp
end Go.Proofs.Ythbjlmoaceaeeaa
set_option linter.unusedVariables false
set_option linter.unusedSimpArgs false
set_option maxRecDepth 100000
set_option maxHeartbeats 1000000
namespace Go.Proofs.Ythbjlmoaceaeeaa
open Go Go.Abs
theorem slices_ContainsFunc_api_Token_many_1_ok (fuel : Nat) (s1 : (List Api.Token)) (r : Bool) (h : M.slices_ContainsFunc_api_Token_many_1 fuel s1 = some r) : Pure Try.prog 77 [.sl (s1.map Api.Token.c), .fn (.func 78) [] []] (.bool r) := by
  rw [M.slices_ContainsFunc_api_Token_many_1] at h
  refine pure_of_body Try.func77 (by rfl) (by rfl) (by simp) (by simp) (by simp) ?_
  refine cut 9 0 [(0, .sl (s1.map Api.Token.c)), (1, .fn (.func 78) [] [])] [] ?_ ?_
  · refine st ?_
    simp
  obtain ⟨v2, q3, h⟩ := bs h
  refine cut 9 0 [(4, .bool (leI 0 v2))] [] ?_ ?_
  · refine st ?_
    simp
    have r4 := slices_IndexFunc_api_Token_many_1_ok fuel s1 v2 q3
    try simp [] at r4
    refine callPure r4 (by simp) rfl ?_
    simp
  refine awp_ret ?_
  obtain rfl := Option.some.inj h
  simp
end Go.Proofs.Ythbjlmoaceaeeaa
set_option linter.unusedVariables false
set_option linter.unusedSimpArgs false
set_option maxRecDepth 100000
set_option maxHeartbeats 1000000
namespace Go.Proofs.Ythbjlmoaceaeeaa
open Go Go.Abs
theorem law02_many_ok (fuel : Nat) (l1 : (List Api.Token)) (r : Bool) (h : M.law02_many fuel l1 = some r) : Pure Try.prog 41 [.sl (l1.map Api.Token.c)] (.bool r) := by
  rw [M.law02_many] at h
  refine pure_of_body Try.func41 (by rfl) (by rfl) (by simp) (by simp) (by simp) ?_
  refine cut 20 0 [(0, .sl (l1.map Api.Token.c))] [] ?_ ?_
  · refine st ?_
    simp
  obtain ⟨b20, q21, h⟩ := bs h
  refine cut 20 0 [(2, .bool b20)] [] ?_ ?_
  · rcases sp q21 with ⟨g2, q21⟩ | ⟨g2, q21⟩
    · have c3 := ltT g2
      refine factL 0 rfl fun f4 => ?_
      rw [List.length_map] at f4
      rcases sp q21 with ⟨g5, q21⟩ | ⟨g5, q21⟩
      · have c6 := leT g5
        obtain rfl := Option.some.inj q21
        refine st ?_
        simp [g2, g5]
      · have c7 := leF g5
        rcases sp q21 with ⟨g8, q21⟩ | ⟨g8, q21⟩
        · have c9 := ltT g8
          obtain rfl := Option.some.inj q21
          refine st ?_
          simp [g2, g5, g8]
        · have c10 := ltF g8
          obtain ⟨v11, q12, q21⟩ := bs q21
          obtain rfl := Option.some.inj q21
          refine st ?_
          simp [g2, g5, g8]
          have r22 := slices_ContainsFunc_api_Token_many_1_ok fuel l1 v11 q12
          try simp [g2, g5, g8] at r22
          refine callPure r22 (by simp) rfl ?_
          simp [g2, g5, g8]
    · have c13 := ltF g2
      refine factL 0 rfl fun f14 => ?_
      rw [List.length_map] at f14
      rcases sp q21 with ⟨g15, q21⟩ | ⟨g15, q21⟩
      · have c16 := ltT g15
        obtain rfl := Option.some.inj q21
        refine st ?_
        simp [g2, g15]
      · have c17 := ltF g15
        obtain ⟨v18, q19, q21⟩ := bs q21
        obtain rfl := Option.some.inj q21
        refine st ?_
        simp [g2, g15]
        have r23 := slices_ContainsFunc_api_Token_many_1_ok fuel l1 v18 q19
        try simp [g2, g15] at r23
        refine callPure r23 (by simp) rfl ?_
        simp [g2, g15]
  refine awp_ret ?_
  obtain rfl := Option.some.inj h
  simp
end Go.Proofs.Ythbjlmoaceaeeaa
set_option linter.unusedVariables false
set_option linter.unusedSimpArgs false
set_option maxRecDepth 100000
set_option maxHeartbeats 1000000
namespace Go.Proofs.Ythbjlmoaceaeeaa
open Go Go.Abs
theorem ref02_Same_ok (fuel : Nat) (a1 : (List Api.Token)) (b2 : (List Api.Token)) (at3 : Bool) (r : Bool) (h : M.ref02_Same fuel a1 b2 at3 = some r) : Pure Try.prog 32 [.sl (a1.map Api.Token.c), .sl (b2.map Api.Token.c), .bool at3] (.bool r) := by
  rw [M.ref02_Same] at h
  refine pure_of_body Try.func32 (by rfl) (by rfl) (by simp) (by simp) (by simp) ?_
  refine cut 59 0 [(0, .sl (a1.map Api.Token.c)), (1, .sl (b2.map Api.Token.c)), (2, .bool at3)] [] ?_ ?_
  · refine st ?_
    simp
  refine awp_seq ?_
  refine cut 59 0 [(0, .sl (a1.map Api.Token.c)), (1, .sl (b2.map Api.Token.c)), (2, .bool at3), (12, .bool (!(eqI (a1.length : Int) (b2.length : Int))))] [] ?_ ?_
  · refine st ?_
    simp
  rcases sp h with ⟨g4, h⟩ | ⟨g4, h⟩
  · have g5 := notT g4
    have c6 := eqF g5
    refine condT rfl g4 ?_
    refine cut 59 0 [(6, .bool false)] [] ?_ ?_
    · refine st ?_
      simp
    refine awp_ret ?_
    refine ret_seq ?_
    obtain rfl := Option.some.inj h
    simp
  · have g7 := notF g4
    have c8 := eqT g7
    refine condF rfl g4 ?_
    refine awp_skip ?_
    refine seq_eq ?_
    refine awp_seq ?_
    refine cut 59 0 [(0, .sl (a1.map Api.Token.c)), (1, .sl (b2.map Api.Token.c)), (2, .bool at3), (7, .int .i64 0)] [] ?_ ?_
    · refine st ?_
      simp
    refine awp_block ?_
    obtain ⟨o11, l12, h⟩ := bs h
    refine awp_inv (fun p : Nat × Nat => mkS 59 0 [(0, .sl (a1.map Api.Token.c)), (1, .sl (b2.map Api.Token.c)), (2, .bool at3), (7, .int .i64 ((p.2 : Nat) : Int))] []) (fun p => M.ref02_Same_l1 a1 b2 at3 p.1 p.2 = some o11) (fun p => p.1) (fuel, 0) l12 (le_mkS (by simp)) ?_
    rintro ⟨k13, i9⟩ l12
    dsimp only at l12 ⊢
    cases k13 with
    | zero =>
      rw [M.ref02_Same_l1] at l12; cases l12
    | succ k14 =>
      rw [M.ref02_Same_l1] at l12
      refine awp_seq ?_
      refine cut 59 0 [(0, .sl (a1.map Api.Token.c)), (1, .sl (b2.map Api.Token.c)), (2, .bool at3), (7, .int .i64 ((i9 : Nat) : Int)), (16, .bool (ltI ((i9 : Nat) : Int) (a1.length : Int)))] [] ?_ ?_
      · refine st ?_
        simp
      rcases sp l12 with ⟨g15, l12⟩ | ⟨g15, l12⟩
      · have c16 := ltT g15
        refine condT rfl g15 ?_
        refine factL 0 rfl fun f17 => ?_
        rw [List.length_map] at f17
        refine awp_skip ?_
        refine seq_eq ?_
        refine awp_seq ?_
        refine awp_block ?_
        obtain ⟨b31, q32, l12⟩ := bs l12
        refine cut 59 0 [(0, .sl (a1.map Api.Token.c)), (1, .sl (b2.map Api.Token.c)), (2, .bool at3), (7, .int .i64 ((i9 : Nat) : Int)), (58, .bool b31)] [] ?_ ?_
        · obtain ⟨x18, q19, q32⟩ := bs q32
          obtain ⟨x20, q21, q32⟩ := bs q32
          rcases sp q32 with ⟨g22, q32⟩ | ⟨g22, q32⟩
          · have g23 := notT g22
            have c24 := eqF g23
            obtain rfl := Option.some.inj q32
            refine awp_region_draw [] mixed (n := 59) rfl (by decide) ?_
            simp [q19, q21, g22]
          · have g25 := notF g22
            have c26 := eqT g25
            rcases sp q32 with ⟨g27, q32⟩ | ⟨g27, q32⟩
            · have g28 := notT g27
              obtain rfl := Option.some.inj q32
              refine awp_region_draw [] mixed (n := 59) rfl (by decide) ?_
              simp [q19, q21, g22, g27]
            · have g29 := notF g27
              rcases sp q32 with ⟨g30, q32⟩ | ⟨g30, q32⟩
              · obtain rfl := Option.some.inj q32
                refine awp_region_draw [] mixed (n := 59) rfl (by decide) ?_
                simp [q19, q21, g22, g27, g30]
              · obtain rfl := Option.some.inj q32
                refine awp_region_draw [] mixed (n := 59) rfl (by decide) ?_
                simp [q19, q21, g22, g27, g30]
        rcases sp l12 with ⟨g33, l12⟩ | ⟨g33, l12⟩
        · refine condT rfl g33 ?_
          refine cut 59 0 [(6, .bool false)] [] ?_ ?_
          · refine st ?_
            simp
          refine awp_ret ?_
          refine ret_blk ?_
          refine ret_seq ?_
          replace h := retL l12 h
          refine ret_seq ?_
          refine ret_blk ?_
          refine ret_seq ?_
          obtain rfl := Option.some.inj h
          simp
        · refine condF rfl g33 ?_
          refine awp_skip ?_
          refine blk_n ?_
          refine seq_eq ?_
          have q34 : Rng .i64 (((i9 : Nat) : Int) + 1) := by simp only [Rng, inR]; omega
          try simp at q34
          refine last 59 0 [(0, .sl (a1.map Api.Token.c)), (1, .sl (b2.map Api.Token.c)), (2, .bool at3), (7, .int .i64 ((i9 + 1 : Nat) : Int))] [] ?_ fun zz hs => ?_
          · refine st ?_
            simp [q34]
          exact ⟨(k14, i9 + 1), hs, l12, by simp⟩
      · have c35 := ltF g15
        refine condF rfl g15 ?_
        refine factL 0 rfl fun f36 => ?_
        rw [List.length_map] at f36
        refine awp_exit ?_
        refine exit_seq ?_
        rcases o11 with o11 | o10
        · cases l12
        have q37 := Sum.inr.inj (Option.some.inj l12)
        replace h := elimR h
        refine exit_seq ?_
        refine exit_blk ?_
        refine seq_le (t := mkS 59 0 [] []) ?_ (le_mkS (by simp []))
        refine cut 59 0 [(6, .bool true)] [] ?_ ?_
        · refine st ?_
          simp
        refine awp_ret ?_
        obtain rfl := Option.some.inj h
        simp
end Go.Proofs.Ythbjlmoaceaeeaa
set_option linter.unusedVariables false
set_option linter.unusedSimpArgs false
set_option maxRecDepth 100000
set_option maxHeartbeats 1000000
namespace Go.Proofs.Ythbjlmoaceaeeaa
open Go Go.Abs
theorem strings_Builder_WriteString_ok (s1 : (List UInt8)) (b2 : (List UInt8)) (r : Int × (List UInt8)) (h : M.strings_Builder_WriteString s1 b2 = some r) : Raw Try.prog 73 [.mptr 0 0, .str s1] [[.baddr 119 0, .osl ⟨1, 5⟩ (b2.map cU)]] (.tup [.int .i64 r.1, .nilif]) [[.baddr 119 0, .osl ⟨1, 5⟩ (r.2.map cU)]] := by
  rw [M.strings_Builder_WriteString] at h
  refine raw_of_bodyB Try.func73 (by rfl) (by rfl) (by simp) (by simp) ?_
  refine cut 19 1 [(0, .mptr 0 0), (1, .str s1)] [[.baddr 119 0, .osl ⟨1, 5⟩ (b2.map cU)]] ?_ ?_
  · refine st ?_
    simp
  obtain ⟨v3, q4, h⟩ := bs h
  refine cut 19 1 [(0, .mptr 0 0), (1, .str s1)] [[.baddr 119 0, .osl ⟨1, 5⟩ (b2.map cU)]] ?_ ?_
  · refine st ?_
    simp
    have r9 := (strings_Builder_copyCheck_ok b2 v3 q4).frame [0] [[.baddr 119 0, .osl ⟨1, 5⟩ (b2.map cU)]] (by simp)
    try simp [] at r9
    refine callRaw r9 (by simp []) rfl ?_
    simp
  obtain ⟨l5, q6, h⟩ := bs h
  obtain ⟨q7, q8⟩ := app_ok q6
  try simp at q7
  refine cut 19 1 [(1, .str s1)] [[.baddr 119 0, .osl ⟨1, 5⟩ (l5.map cU)]] ?_ ?_
  · refine st ?_
    simp [q7, q8]
  refine cut 19 1 [(4, .int .i64 (s1.length : Int)), (5, .nilif)] [[.baddr 119 0, .osl ⟨1, 5⟩ (l5.map cU)]] ?_ ?_
  · refine st ?_
    simp
  refine awp_ret ?_
  obtain rfl := Option.some.inj h
  simp
end Go.Proofs.Ythbjlmoaceaeeaa
set_option linter.unusedVariables false
set_option linter.unusedSimpArgs false
set_option maxRecDepth 100000
set_option maxHeartbeats 1000000
namespace Go.Proofs.Ythbjlmoaceaeeaa
open Go Go.Abs
theorem lexer_Quote_ok (fuel : Nat) (s1 : (List UInt8)) (r : (List UInt8) × Int) (h : M.lexer_Quote fuel s1 = some r) : Pure Try.prog 39 [.str s1] (.tup [.str r.1, .int .i64 r.2]) := by
  rw [M.lexer_Quote] at h
  refine pure_of_body Try.func39 (by rfl) (by rfl) (by simp) (by simp) (by simp) ?_
  refine cut 42 0 [(0, .str s1)] [] ?_ ?_
  · refine st ?_
    simp
  refine awp_seq ?_
  refine cut 42 0 [(0, .str s1), (9, .bool (ltI 16384 (s1.length : Int)))] [] ?_ ?_
  · refine st ?_
    simp
  rcases sp h with ⟨g2, h⟩ | ⟨g2, h⟩
  · have c3 := ltT g2
    refine condT rfl g2 ?_
    refine factS 0 rfl fun f4 => ?_
    refine cut 42 0 [(2, .str ([] : List UInt8)), (3, .int .i64 5)] [] ?_ ?_
    · refine st ?_
      simp
    refine awp_ret ?_
    refine ret_seq ?_
    obtain rfl := Option.some.inj h
    simp
  · have c5 := ltF g2
    refine condF rfl g2 ?_
    refine factS 0 rfl fun f6 => ?_
    refine awp_skip ?_
    refine seq_eq ?_
    refine cut 42 0 [(0, .str s1), (4, .mptr 0 0)] [[.baddr 119 0, .osl ⟨1, 5⟩ (([] : List UInt8).map cU)]] ?_ ?_
    · refine st ?_
      simp
    obtain ⟨v7, q8, h⟩ := bs h
    refine cut 42 0 [(0, .str s1), (4, .mptr 0 0)] [[.baddr 119 0, .osl ⟨1, 5⟩ (v7.map cU)]] ?_ ?_
    · refine st ?_
      simp
      have r60 := (strings_Builder_WriteByte_ok (34 : UInt8) ([] : List UInt8) v7 q8).frame [0] [[.baddr 119 0, .osl ⟨1, 5⟩ (([] : List UInt8).map cU)]] (by simp)
      try simp [] at r60
      refine callRaw r60 (by simp []) rfl ?_
      simp
    refine awp_seq ?_
    refine cut 42 0 [(0, .str s1), (4, .mptr 0 0), (12, .int .i64 (s1.length : Int)), (13, .int .i64 0)] [[.baddr 119 0, .osl ⟨1, 5⟩ (v7.map cU)]] ?_ ?_
    · refine st ?_
      simp
    refine awp_block ?_
    obtain ⟨o12, l13, h⟩ := bs h
    refine awp_inv (fun p : Nat × (List UInt8) × Nat => mkS 42 0 [(0, .str s1), (4, .mptr 0 0), (12, .int .i64 (s1.length : Int)), (13, .int .i64 ((p.2.2 : Nat) : Int))] [[.baddr 119 0, .osl ⟨1, 5⟩ (p.2.1.map cU)]]) (fun p => M.lexer_Quote_l1 s1 p.1 p.2.1 p.2.2 = some o12) (fun p => p.1) (fuel, v7, 0) l13 (le_mkS (by simp)) ?_
    rintro ⟨k14, buf9, i10⟩ l13
    dsimp only at l13 ⊢
    cases k14 with
    | zero =>
      rw [M.lexer_Quote_l1] at l13; cases l13
    | succ k15 =>
      rw [M.lexer_Quote_l1] at l13
      refine cut 42 0 [(0, .str s1), (4, .mptr 0 0), (12, .int .i64 (s1.length : Int)), (13, .int .i64 ((i10 : Nat) : Int)), (14, .bool (ltI ((i10 : Nat) : Int) (s1.length : Int)))] [[.baddr 119 0, .osl ⟨1, 5⟩ (buf9.map cU)]] ?_ ?_
      · refine st ?_
        simp
      refine awp_seq ?_
      rcases sp l13 with ⟨g16, l13⟩ | ⟨g16, l13⟩
      · have c17 := ltT g16
        refine condT rfl g16 ?_
        refine awp_skip ?_
        refine seq_eq ?_
        refine awp_seq ?_
        refine awp_block ?_
        refine cut 42 0 [(0, .str s1), (4, .mptr 0 0), (5, .int .i64 ((i10 : Nat) : Int)), (12, .int .i64 (s1.length : Int)), (13, .int .i64 ((i10 : Nat) : Int))] [[.baddr 119 0, .osl ⟨1, 5⟩ (buf9.map cU)]] ?_ ?_
        · refine st ?_
          simp
        obtain ⟨c18, q19, l13⟩ := bs l13
        refine cut 42 0 [(0, .str s1), (4, .mptr 0 0), (6, .int .u8 (c18.toNat : Int)), (12, .int .i64 (s1.length : Int)), (13, .int .i64 ((i10 : Nat) : Int))] [[.baddr 119 0, .osl ⟨1, 5⟩ (buf9.map cU)]] ?_ ?_
        · refine st ?_
          simp [q19]
        refine awp_block ?_
        refine cut 42 0 [(0, .str s1), (4, .mptr 0 0), (6, .int .u8 (c18.toNat : Int)), (12, .int .i64 (s1.length : Int)), (13, .int .i64 ((i10 : Nat) : Int)), (21, .bool (eqI (c18.toNat : Int) 10))] [[.baddr 119 0, .osl ⟨1, 5⟩ (buf9.map cU)]] ?_ ?_
        · refine st ?_
          simp
        rcases sp l13 with ⟨g20, l13⟩ | ⟨g20, l13⟩
        · have c21 := eqT g20
          refine condT rfl g20 ?_
          obtain ⟨v22, q23, l13⟩ := bs l13
          refine last 42 0 [(0, .str s1), (4, .mptr 0 0), (12, .int .i64 (s1.length : Int)), (13, .int .i64 ((i10 : Nat) : Int))] [[.baddr 119 0, .osl ⟨1, 5⟩ (v22.2.map cU)]] ?_ fun zz hs => ?_
          · refine st ?_
            simp
            have r25 := (strings_Builder_WriteString_ok [92, 110] buf9 v22 q23).frame [0] [[.baddr 119 0, .osl ⟨1, 5⟩ (buf9.map cU)]] (by simp)
            try simp [] at r25
            refine callRaw r25 (by simp []) rfl ?_
            simp
          refine blk_n ?_
          refine blk_n ?_
          refine seq_le ?_ hs
          have q24 : Rng .i64 (((i10 : Nat) : Int) + 1) := by simp only [Rng, inR]; omega
          try simp at q24
          refine last 42 0 [(0, .str s1), (4, .mptr 0 0), (12, .int .i64 (s1.length : Int)), (13, .int .i64 ((i10 + 1 : Nat) : Int))] [[.baddr 119 0, .osl ⟨1, 5⟩ (v22.2.map cU)]] ?_ fun zz hs => ?_
          · refine st ?_
            simp [q24]
          exact ⟨(k15, v22.2, i10 + 1), hs, l13, by simp⟩
        · have c26 := eqF g20
          refine condF rfl g20 ?_
          obtain ⟨v27, q28, l13⟩ := bs l13
          refine cut 42 0 [(0, .str s1), (4, .mptr 0 0), (6, .int .u8 (c18.toNat : Int)), (12, .int .i64 (s1.length : Int)), (13, .int .i64 ((i10 : Nat) : Int)), (25, .bool (!v27))] [[.baddr 119 0, .osl ⟨1, 5⟩ (buf9.map cU)]] ?_ ?_
          · refine st ?_
            simp
            have r51 := lexer_visible_ok c18 v27 q28
            try simp [] at r51
            refine callPure r51 (by simp) rfl ?_
            simp
          rcases sp l13 with ⟨g29, l13⟩ | ⟨g29, l13⟩
          · have g30 := notT g29
            refine condT rfl g29 ?_
            refine cut 42 0 [(2, .str ([] : List UInt8)), (3, .int .i64 3)] [[.baddr 119 0, .osl ⟨1, 5⟩ (buf9.map cU)]] ?_ ?_
            · refine st ?_
              simp
            refine awp_ret ?_
            refine ret_blk ?_
            refine ret_blk ?_
            refine ret_seq ?_
            replace h := retL l13 h
            refine ret_seq ?_
            refine ret_blk ?_
            refine ret_seq ?_
            obtain rfl := Option.some.inj h
            simp
          · have g31 := notF g29
            refine condF rfl g29 ?_
            refine cut 42 0 [(0, .str s1), (4, .mptr 0 0), (6, .int .u8 (c18.toNat : Int)), (12, .int .i64 (s1.length : Int)), (13, .int .i64 ((i10 : Nat) : Int)), (29, .bool ((eqI (c18.toNat : Int) 34) || (eqI (c18.toNat : Int) 92)))] [[.baddr 119 0, .osl ⟨1, 5⟩ (buf9.map cU)]] ?_ ?_
            · rcases tf (eqI (c18.toNat : Int) 34) with g32 | g32
              · have c33 := eqT g32
                refine st ?_
                simp [g32]
              · have c34 := eqF g32
                refine st ?_
                simp [g32]
            rcases sp l13 with ⟨g35, l13⟩ | ⟨g35, l13⟩
            · refine condT rfl g35 ?_
              obtain ⟨v36, q37, l13⟩ := bs l13
              refine cut 42 0 [(0, .str s1), (4, .mptr 0 0), (6, .int .u8 (c18.toNat : Int)), (12, .int .i64 (s1.length : Int)), (13, .int .i64 ((i10 : Nat) : Int))] [[.baddr 119 0, .osl ⟨1, 5⟩ (v36.map cU)]] ?_ ?_
              · refine st ?_
                simp
                have r42 := (strings_Builder_WriteByte_ok (92 : UInt8) buf9 v36 q37).frame [0] [[.baddr 119 0, .osl ⟨1, 5⟩ (buf9.map cU)]] (by simp)
                try simp [] at r42
                refine callRaw r42 (by simp []) rfl ?_
                simp
              obtain ⟨v38, q39, l13⟩ := bs l13
              refine last 42 0 [(0, .str s1), (4, .mptr 0 0), (12, .int .i64 (s1.length : Int)), (13, .int .i64 ((i10 : Nat) : Int))] [[.baddr 119 0, .osl ⟨1, 5⟩ (v38.map cU)]] ?_ fun zz hs => ?_
              · refine st ?_
                simp
                have r41 := (strings_Builder_WriteByte_ok c18 v36 v38 q39).frame [0] [[.baddr 119 0, .osl ⟨1, 5⟩ (v36.map cU)]] (by simp)
                try simp [] at r41
                refine callRaw r41 (by simp []) rfl ?_
                simp
              refine blk_n ?_
              refine blk_n ?_
              refine seq_le ?_ hs
              have q40 : Rng .i64 (((i10 : Nat) : Int) + 1) := by simp only [Rng, inR]; omega
              try simp at q40
              refine last 42 0 [(0, .str s1), (4, .mptr 0 0), (12, .int .i64 (s1.length : Int)), (13, .int .i64 ((i10 + 1 : Nat) : Int))] [[.baddr 119 0, .osl ⟨1, 5⟩ (v38.map cU)]] ?_ fun zz hs => ?_
              · refine st ?_
                simp [q40]
              exact ⟨(k15, v38, i10 + 1), hs, l13, by simp⟩
            · obtain ⟨g43, g44⟩ := orF g35
              have c45 := eqF g43
              have c46 := eqF g44
              refine condF rfl g35 ?_
              obtain ⟨v47, q48, l13⟩ := bs l13
              refine last 42 0 [(0, .str s1), (4, .mptr 0 0), (12, .int .i64 (s1.length : Int)), (13, .int .i64 ((i10 : Nat) : Int))] [[.baddr 119 0, .osl ⟨1, 5⟩ (v47.map cU)]] ?_ fun zz hs => ?_
              · refine st ?_
                simp
                have r50 := (strings_Builder_WriteByte_ok c18 buf9 v47 q48).frame [0] [[.baddr 119 0, .osl ⟨1, 5⟩ (buf9.map cU)]] (by simp)
                try simp [] at r50
                refine callRaw r50 (by simp []) rfl ?_
                simp
              refine blk_n ?_
              refine blk_n ?_
              refine seq_le ?_ hs
              have q49 : Rng .i64 (((i10 : Nat) : Int) + 1) := by simp only [Rng, inR]; omega
              try simp at q49
              refine last 42 0 [(0, .str s1), (4, .mptr 0 0), (12, .int .i64 (s1.length : Int)), (13, .int .i64 ((i10 + 1 : Nat) : Int))] [[.baddr 119 0, .osl ⟨1, 5⟩ (v47.map cU)]] ?_ fun zz hs => ?_
              · refine st ?_
                simp [q49]
              exact ⟨(k15, v47, i10 + 1), hs, l13, by simp⟩
      · have c52 := ltF g16
        refine condF rfl g16 ?_
        refine awp_exit ?_
        refine exit_seq ?_
        rcases o12 with o12 | o11
        · cases l13
        have q53 := Sum.inr.inj (Option.some.inj l13)
        replace h := elimR h
        have q53 := q53.symm
        refine exit_seq ?_
        refine exit_blk ?_
        refine seq_le (t := mkS 42 0 [(4, .mptr 0 0)] [[.baddr 119 0, .osl ⟨1, 5⟩ (o11.map cU)]]) ?_ (le_mkS (by simp [q53]))
        obtain ⟨v54, q55, h⟩ := bs h
        refine cut 42 0 [(4, .mptr 0 0)] [[.baddr 119 0, .osl ⟨1, 5⟩ (v54.map cU)]] ?_ ?_
        · refine st ?_
          simp
          have r59 := (strings_Builder_WriteByte_ok (34 : UInt8) o11 v54 q55).frame [0] [[.baddr 119 0, .osl ⟨1, 5⟩ (o11.map cU)]] (by simp)
          try simp [] at r59
          refine callRaw r59 (by simp []) rfl ?_
          simp
        obtain ⟨v56, q57, h⟩ := bs h
        refine cut 42 0 [(2, .str v56), (3, .int .i64 0)] [[.baddr 119 0, .osl ⟨1, 5⟩ (v54.map cU)]] ?_ ?_
        · refine st ?_
          simp
          have r58 := (strings_Builder_String_ok v54 v56 q57).frame [0] [[.baddr 119 0, .osl ⟨1, 5⟩ (v54.map cU)]] (by simp)
          try simp [] at r58
          refine callRaw r58 (by simp []) rfl ?_
          simp
        refine awp_ret ?_
        obtain rfl := Option.some.inj h
        simp
end Go.Proofs.Ythbjlmoaceaeeaa
set_option linter.unusedVariables false
set_option linter.unusedSimpArgs false
set_option maxRecDepth 100000
set_option maxHeartbeats 1000000
namespace Go.Proofs.Ythbjlmoaceaeeaa
open Go Go.Abs
theorem lexer_written_ok (fuel : Nat) (a1 : Api.Token) (r : (List UInt8) × Bool) (h : M.lexer_written fuel a1 = some r) : Pure Try.prog 80 [.agg [.int .i64 a1.Kind, .str a1.Text, .int .i64 a1.At.Line, .int .i64 a1.At.Column]] (.tup [.str r.1, .bool r.2]) := by
  rw [M.lexer_written] at h
  refine pure_of_body Try.func80 (by rfl) (by rfl) (by simp) (by simp) (by simp) ?_
  refine cut 77 0 [(1, .mptr 0 0)] [[.int .i64 a1.Kind, .str a1.Text, .int .i64 a1.At.Line, .int .i64 a1.At.Column]] ?_ ?_
  · refine st ?_
    simp
  refine cut 77 0 [(1, .mptr 0 0), (4, .str a1.Text)] [[.int .i64 a1.Kind, .str a1.Text, .int .i64 a1.At.Line, .int .i64 a1.At.Column]] ?_ ?_
  · refine st ?_
    simp
  refine awp_seq ?_
  refine cut 77 0 [(1, .mptr 0 0), (4, .str a1.Text), (16, .int .i64 a1.Kind)] [[.int .i64 a1.Kind, .str a1.Text, .int .i64 a1.At.Line, .int .i64 a1.At.Column]] ?_ ?_
  · refine st ?_
    simp
  refine awp_block ?_
  refine cut 77 0 [(1, .mptr 0 0), (4, .str a1.Text), (16, .int .i64 a1.Kind), (17, .bool (eqI a1.Kind 5))] [[.int .i64 a1.Kind, .str a1.Text, .int .i64 a1.At.Line, .int .i64 a1.At.Column]] ?_ ?_
  · refine st ?_
    simp
  rcases sp h with ⟨g2, h⟩ | ⟨g2, h⟩
  · have c3 := eqT g2
    refine condT rfl g2 ?_
    obtain ⟨v4, q5, h⟩ := bs h
    refine cut 77 0 [(5, .str v4.1), (6, .int .i64 v4.2)] [[.int .i64 a1.Kind, .str a1.Text, .int .i64 a1.At.Line, .int .i64 a1.At.Column]] ?_ ?_
    · refine st ?_
      simp
      have r6 := lexer_Quote_ok fuel a1.Text v4 q5
      try simp [] at r6
      refine callPure r6 (by simp) rfl ?_
      simp
    refine cut 77 0 [(2, .str v4.1), (3, .bool (eqI v4.2 0))] [[.int .i64 a1.Kind, .str a1.Text, .int .i64 a1.At.Line, .int .i64 a1.At.Column]] ?_ ?_
    · refine st ?_
      simp
    refine awp_ret ?_
    refine ret_blk ?_
    refine ret_seq ?_
    obtain rfl := Option.some.inj h
    simp
  · have c7 := eqF g2
    refine condF rfl g2 ?_
    refine cut 77 0 [(1, .mptr 0 0), (4, .str a1.Text), (16, .int .i64 a1.Kind), (27, .bool (eqI a1.Kind 7))] [[.int .i64 a1.Kind, .str a1.Text, .int .i64 a1.At.Line, .int .i64 a1.At.Column]] ?_ ?_
    · refine st ?_
      simp
    rcases sp h with ⟨g8, h⟩ | ⟨g8, h⟩
    · have c9 := eqT g8
      refine condT rfl g8 ?_
      obtain ⟨v10, q11, h⟩ := bs h
      refine cut 77 0 [(4, .str a1.Text), (7, .str v10.1), (8, .bool v10.2)] [[.int .i64 a1.Kind, .str a1.Text, .int .i64 a1.At.Line, .int .i64 a1.At.Column]] ?_ ?_
      · refine st ?_
        simp
        have r13 := lexer_Symbol_ok fuel a1.Text v10 q11
        try simp [] at r13
        refine callPure r13 (by simp) rfl ?_
        simp
      refine cut 77 0 [(2, .str a1.Text), (3, .bool (v10.2 && (eqS v10.1 a1.Text)))] [[.int .i64 a1.Kind, .str a1.Text, .int .i64 a1.At.Line, .int .i64 a1.At.Column]] ?_ ?_
      · rcases tf (v10.2) with g12 | g12
        · refine st ?_
          simp [g12]
        · refine st ?_
          simp [g12]
      refine awp_ret ?_
      refine ret_blk ?_
      refine ret_seq ?_
      obtain rfl := Option.some.inj h
      simp
    · have c14 := eqF g8
      refine condF rfl g8 ?_
      refine awp_seq ?_
      refine cut 77 0 [(1, .mptr 0 0), (4, .str a1.Text), (16, .int .i64 a1.Kind), (41, .bool (eqI a1.Kind 1))] [[.int .i64 a1.Kind, .str a1.Text, .int .i64 a1.At.Line, .int .i64 a1.At.Column]] ?_ ?_
      · refine st ?_
        simp
      rcases sp h with ⟨g15, h⟩ | ⟨g15, h⟩
      · have c16 := eqT g15
        refine condT rfl g15 ?_
        refine awp_skip ?_
        refine seq_eq ?_
        refine condT rfl (by simp [g15]) ?_
        refine awp_seq ?_
        refine cut 77 0 [(1, .mptr 0 0), (4, .str a1.Text), (48, .bool (eqS a1.Text ([] : List UInt8)))] [[.int .i64 a1.Kind, .str a1.Text, .int .i64 a1.At.Line, .int .i64 a1.At.Column]] ?_ ?_
        · refine st ?_
          simp
        rcases sp h with ⟨g17, h⟩ | ⟨g17, h⟩
        · refine condT rfl g17 ?_
          refine cut 77 0 [(2, .str ([] : List UInt8)), (3, .bool false)] [[.int .i64 a1.Kind, .str a1.Text, .int .i64 a1.At.Line, .int .i64 a1.At.Column]] ?_ ?_
          · refine st ?_
            simp
          refine awp_ret ?_
          refine ret_seq ?_
          refine ret_blk ?_
          refine ret_seq ?_
          obtain rfl := Option.some.inj h
          simp
        · refine condF rfl g17 ?_
          refine awp_skip ?_
          refine seq_eq ?_
          refine cut 77 0 [(1, .mptr 0 0), (4, .str a1.Text), (9, .mptr 1 0)] [[.int .i64 a1.Kind, .str a1.Text, .int .i64 a1.At.Line, .int .i64 a1.At.Column], [.str a1.Text, .int .i64 0]] ?_ ?_
          · refine st ?_
            simp
          obtain ⟨v18, q19, h⟩ := bs h
          refine cut 77 0 [(1, .mptr 0 0), (4, .str a1.Text), (9, .mptr 1 0), (10, .mptr 2 0), (12, .int .i64 v18.2.2.1)] [[.int .i64 a1.Kind, .str a1.Text, .int .i64 a1.At.Line, .int .i64 a1.At.Column], [.str v18.2.2.2.s, .int .i64 v18.2.2.2.at_], [.int .i64 v18.1.Kind, .str v18.1.Text, .int .i64 v18.1.At.Line, .int .i64 v18.1.At.Column]] ?_ ?_
          · refine st ?_
            simp
            have r26 := (lexer_scanner_token_ok fuel (Lexer.scanner.mk a1.Text 0) v18 q19).frame [1] [[.int .i64 a1.Kind, .str a1.Text, .int .i64 a1.At.Line, .int .i64 a1.At.Column], [.str a1.Text, .int .i64 0]] (by simp)
            try simp [] at r26
            refine callRaw r26 (by simp []) rfl ?_
            simp
          refine cut 77 0 [(2, .str a1.Text), (3, .bool ((eqI v18.2.2.1 0) && ((eqI v18.1.Kind a1.Kind) && (eqI v18.2.2.2.at_ (a1.Text.length : Int)))))] [[.int .i64 a1.Kind, .str a1.Text, .int .i64 a1.At.Line, .int .i64 a1.At.Column], [.str v18.2.2.2.s, .int .i64 v18.2.2.2.at_], [.int .i64 v18.1.Kind, .str v18.1.Text, .int .i64 v18.1.At.Line, .int .i64 v18.1.At.Column]] ?_ ?_
          · rcases tf (eqI v18.2.2.1 0) with g20 | g20
            · have c21 := eqT g20
              rcases tf (eqI v18.1.Kind a1.Kind) with g22 | g22
              · have c23 := eqT g22
                refine awp_region_draw [999] mixed (n := 77) rfl (by decide) ?_
                simp [g20, g22]
              · have c24 := eqF g22
                refine awp_region_draw [999] mixed (n := 77) rfl (by decide) ?_
                simp [g20, g22]
            · have c25 := eqF g20
              refine awp_region_draw [999] mixed (n := 77) rfl (by decide) ?_
              simp [g20]
          refine awp_ret ?_
          refine ret_blk ?_
          refine ret_seq ?_
          obtain rfl := Option.some.inj h
          simp
      · have c27 := eqF g15
        refine condF rfl g15 ?_
        refine cut 77 0 [(1, .mptr 0 0), (4, .str a1.Text), (16, .int .i64 a1.Kind), (41, .bool (eqI a1.Kind 2))] [[.int .i64 a1.Kind, .str a1.Text, .int .i64 a1.At.Line, .int .i64 a1.At.Column]] ?_ ?_
        · refine st ?_
          simp
        rcases sp h with ⟨g28, h⟩ | ⟨g28, h⟩
        · have c29 := eqT g28
          refine condT rfl g28 ?_
          refine awp_skip ?_
          refine seq_eq ?_
          refine condT rfl (by simp [g28]) ?_
          refine awp_seq ?_
          refine cut 77 0 [(1, .mptr 0 0), (4, .str a1.Text), (48, .bool (eqS a1.Text ([] : List UInt8)))] [[.int .i64 a1.Kind, .str a1.Text, .int .i64 a1.At.Line, .int .i64 a1.At.Column]] ?_ ?_
          · refine st ?_
            simp
          rcases sp h with ⟨g30, h⟩ | ⟨g30, h⟩
          · refine condT rfl g30 ?_
            refine cut 77 0 [(2, .str ([] : List UInt8)), (3, .bool false)] [[.int .i64 a1.Kind, .str a1.Text, .int .i64 a1.At.Line, .int .i64 a1.At.Column]] ?_ ?_
            · refine st ?_
              simp
            refine awp_ret ?_
            refine ret_seq ?_
            refine ret_blk ?_
            refine ret_seq ?_
            obtain rfl := Option.some.inj h
            simp
          · refine condF rfl g30 ?_
            refine awp_skip ?_
            refine seq_eq ?_
            refine cut 77 0 [(1, .mptr 0 0), (4, .str a1.Text), (9, .mptr 1 0)] [[.int .i64 a1.Kind, .str a1.Text, .int .i64 a1.At.Line, .int .i64 a1.At.Column], [.str a1.Text, .int .i64 0]] ?_ ?_
            · refine st ?_
              simp
            obtain ⟨v31, q32, h⟩ := bs h
            refine cut 77 0 [(1, .mptr 0 0), (4, .str a1.Text), (9, .mptr 1 0), (10, .mptr 2 0), (12, .int .i64 v31.2.2.1)] [[.int .i64 a1.Kind, .str a1.Text, .int .i64 a1.At.Line, .int .i64 a1.At.Column], [.str v31.2.2.2.s, .int .i64 v31.2.2.2.at_], [.int .i64 v31.1.Kind, .str v31.1.Text, .int .i64 v31.1.At.Line, .int .i64 v31.1.At.Column]] ?_ ?_
            · refine st ?_
              simp
              have r39 := (lexer_scanner_token_ok fuel (Lexer.scanner.mk a1.Text 0) v31 q32).frame [1] [[.int .i64 a1.Kind, .str a1.Text, .int .i64 a1.At.Line, .int .i64 a1.At.Column], [.str a1.Text, .int .i64 0]] (by simp)
              try simp [] at r39
              refine callRaw r39 (by simp []) rfl ?_
              simp
            refine cut 77 0 [(2, .str a1.Text), (3, .bool ((eqI v31.2.2.1 0) && ((eqI v31.1.Kind a1.Kind) && (eqI v31.2.2.2.at_ (a1.Text.length : Int)))))] [[.int .i64 a1.Kind, .str a1.Text, .int .i64 a1.At.Line, .int .i64 a1.At.Column], [.str v31.2.2.2.s, .int .i64 v31.2.2.2.at_], [.int .i64 v31.1.Kind, .str v31.1.Text, .int .i64 v31.1.At.Line, .int .i64 v31.1.At.Column]] ?_ ?_
            · rcases tf (eqI v31.2.2.1 0) with g33 | g33
              · have c34 := eqT g33
                rcases tf (eqI v31.1.Kind a1.Kind) with g35 | g35
                · have c36 := eqT g35
                  refine awp_region_draw [999] mixed (n := 77) rfl (by decide) ?_
                  simp [g33, g35]
                · have c37 := eqF g35
                  refine awp_region_draw [999] mixed (n := 77) rfl (by decide) ?_
                  simp [g33, g35]
              · have c38 := eqF g33
                refine awp_region_draw [999] mixed (n := 77) rfl (by decide) ?_
                simp [g33]
            refine awp_ret ?_
            refine ret_blk ?_
            refine ret_seq ?_
            obtain rfl := Option.some.inj h
            simp
        · have c40 := eqF g28
          refine condF rfl g28 ?_
          refine cut 77 0 [(1, .mptr 0 0), (4, .str a1.Text), (16, .int .i64 a1.Kind), (41, .bool (eqI a1.Kind 3))] [[.int .i64 a1.Kind, .str a1.Text, .int .i64 a1.At.Line, .int .i64 a1.At.Column]] ?_ ?_
          · refine st ?_
            simp
          rcases sp h with ⟨g41, h⟩ | ⟨g41, h⟩
          · have c42 := eqT g41
            refine condT rfl g41 ?_
            refine awp_skip ?_
            refine seq_eq ?_
            refine condT rfl (by simp [g41]) ?_
            refine awp_seq ?_
            refine cut 77 0 [(1, .mptr 0 0), (4, .str a1.Text), (48, .bool (eqS a1.Text ([] : List UInt8)))] [[.int .i64 a1.Kind, .str a1.Text, .int .i64 a1.At.Line, .int .i64 a1.At.Column]] ?_ ?_
            · refine st ?_
              simp
            rcases sp h with ⟨g43, h⟩ | ⟨g43, h⟩
            · refine condT rfl g43 ?_
              refine cut 77 0 [(2, .str ([] : List UInt8)), (3, .bool false)] [[.int .i64 a1.Kind, .str a1.Text, .int .i64 a1.At.Line, .int .i64 a1.At.Column]] ?_ ?_
              · refine st ?_
                simp
              refine awp_ret ?_
              refine ret_seq ?_
              refine ret_blk ?_
              refine ret_seq ?_
              obtain rfl := Option.some.inj h
              simp
            · refine condF rfl g43 ?_
              refine awp_skip ?_
              refine seq_eq ?_
              refine cut 77 0 [(1, .mptr 0 0), (4, .str a1.Text), (9, .mptr 1 0)] [[.int .i64 a1.Kind, .str a1.Text, .int .i64 a1.At.Line, .int .i64 a1.At.Column], [.str a1.Text, .int .i64 0]] ?_ ?_
              · refine st ?_
                simp
              obtain ⟨v44, q45, h⟩ := bs h
              refine cut 77 0 [(1, .mptr 0 0), (4, .str a1.Text), (9, .mptr 1 0), (10, .mptr 2 0), (12, .int .i64 v44.2.2.1)] [[.int .i64 a1.Kind, .str a1.Text, .int .i64 a1.At.Line, .int .i64 a1.At.Column], [.str v44.2.2.2.s, .int .i64 v44.2.2.2.at_], [.int .i64 v44.1.Kind, .str v44.1.Text, .int .i64 v44.1.At.Line, .int .i64 v44.1.At.Column]] ?_ ?_
              · refine st ?_
                simp
                have r52 := (lexer_scanner_token_ok fuel (Lexer.scanner.mk a1.Text 0) v44 q45).frame [1] [[.int .i64 a1.Kind, .str a1.Text, .int .i64 a1.At.Line, .int .i64 a1.At.Column], [.str a1.Text, .int .i64 0]] (by simp)
                try simp [] at r52
                refine callRaw r52 (by simp []) rfl ?_
                simp
              refine cut 77 0 [(2, .str a1.Text), (3, .bool ((eqI v44.2.2.1 0) && ((eqI v44.1.Kind a1.Kind) && (eqI v44.2.2.2.at_ (a1.Text.length : Int)))))] [[.int .i64 a1.Kind, .str a1.Text, .int .i64 a1.At.Line, .int .i64 a1.At.Column], [.str v44.2.2.2.s, .int .i64 v44.2.2.2.at_], [.int .i64 v44.1.Kind, .str v44.1.Text, .int .i64 v44.1.At.Line, .int .i64 v44.1.At.Column]] ?_ ?_
              · rcases tf (eqI v44.2.2.1 0) with g46 | g46
                · have c47 := eqT g46
                  rcases tf (eqI v44.1.Kind a1.Kind) with g48 | g48
                  · have c49 := eqT g48
                    refine awp_region_draw [999] mixed (n := 77) rfl (by decide) ?_
                    simp [g46, g48]
                  · have c50 := eqF g48
                    refine awp_region_draw [999] mixed (n := 77) rfl (by decide) ?_
                    simp [g46, g48]
                · have c51 := eqF g46
                  refine awp_region_draw [999] mixed (n := 77) rfl (by decide) ?_
                  simp [g46]
              refine awp_ret ?_
              refine ret_blk ?_
              refine ret_seq ?_
              obtain rfl := Option.some.inj h
              simp
          · have c53 := eqF g41
            refine condF rfl g41 ?_
            refine cut 77 0 [(1, .mptr 0 0), (4, .str a1.Text), (16, .int .i64 a1.Kind), (41, .bool (eqI a1.Kind 4))] [[.int .i64 a1.Kind, .str a1.Text, .int .i64 a1.At.Line, .int .i64 a1.At.Column]] ?_ ?_
            · refine st ?_
              simp
            rcases sp h with ⟨g54, h⟩ | ⟨g54, h⟩
            · have c55 := eqT g54
              refine condT rfl g54 ?_
              refine awp_skip ?_
              refine seq_eq ?_
              refine condT rfl (by simp [g54]) ?_
              refine awp_seq ?_
              refine cut 77 0 [(1, .mptr 0 0), (4, .str a1.Text), (48, .bool (eqS a1.Text ([] : List UInt8)))] [[.int .i64 a1.Kind, .str a1.Text, .int .i64 a1.At.Line, .int .i64 a1.At.Column]] ?_ ?_
              · refine st ?_
                simp
              rcases sp h with ⟨g56, h⟩ | ⟨g56, h⟩
              · refine condT rfl g56 ?_
                refine cut 77 0 [(2, .str ([] : List UInt8)), (3, .bool false)] [[.int .i64 a1.Kind, .str a1.Text, .int .i64 a1.At.Line, .int .i64 a1.At.Column]] ?_ ?_
                · refine st ?_
                  simp
                refine awp_ret ?_
                refine ret_seq ?_
                refine ret_blk ?_
                refine ret_seq ?_
                obtain rfl := Option.some.inj h
                simp
              · refine condF rfl g56 ?_
                refine awp_skip ?_
                refine seq_eq ?_
                refine cut 77 0 [(1, .mptr 0 0), (4, .str a1.Text), (9, .mptr 1 0)] [[.int .i64 a1.Kind, .str a1.Text, .int .i64 a1.At.Line, .int .i64 a1.At.Column], [.str a1.Text, .int .i64 0]] ?_ ?_
                · refine st ?_
                  simp
                obtain ⟨v57, q58, h⟩ := bs h
                refine cut 77 0 [(1, .mptr 0 0), (4, .str a1.Text), (9, .mptr 1 0), (10, .mptr 2 0), (12, .int .i64 v57.2.2.1)] [[.int .i64 a1.Kind, .str a1.Text, .int .i64 a1.At.Line, .int .i64 a1.At.Column], [.str v57.2.2.2.s, .int .i64 v57.2.2.2.at_], [.int .i64 v57.1.Kind, .str v57.1.Text, .int .i64 v57.1.At.Line, .int .i64 v57.1.At.Column]] ?_ ?_
                · refine st ?_
                  simp
                  have r65 := (lexer_scanner_token_ok fuel (Lexer.scanner.mk a1.Text 0) v57 q58).frame [1] [[.int .i64 a1.Kind, .str a1.Text, .int .i64 a1.At.Line, .int .i64 a1.At.Column], [.str a1.Text, .int .i64 0]] (by simp)
                  try simp [] at r65
                  refine callRaw r65 (by simp []) rfl ?_
                  simp
                refine cut 77 0 [(2, .str a1.Text), (3, .bool ((eqI v57.2.2.1 0) && ((eqI v57.1.Kind a1.Kind) && (eqI v57.2.2.2.at_ (a1.Text.length : Int)))))] [[.int .i64 a1.Kind, .str a1.Text, .int .i64 a1.At.Line, .int .i64 a1.At.Column], [.str v57.2.2.2.s, .int .i64 v57.2.2.2.at_], [.int .i64 v57.1.Kind, .str v57.1.Text, .int .i64 v57.1.At.Line, .int .i64 v57.1.At.Column]] ?_ ?_
                · rcases tf (eqI v57.2.2.1 0) with g59 | g59
                  · have c60 := eqT g59
                    rcases tf (eqI v57.1.Kind a1.Kind) with g61 | g61
                    · have c62 := eqT g61
                      refine awp_region_draw [999] mixed (n := 77) rfl (by decide) ?_
                      simp [g59, g61]
                    · have c63 := eqF g61
                      refine awp_region_draw [999] mixed (n := 77) rfl (by decide) ?_
                      simp [g59, g61]
                  · have c64 := eqF g59
                    refine awp_region_draw [999] mixed (n := 77) rfl (by decide) ?_
                    simp [g59]
                refine awp_ret ?_
                refine ret_blk ?_
                refine ret_seq ?_
                obtain rfl := Option.some.inj h
                simp
            · have c66 := eqF g54
              refine condF rfl g54 ?_
              refine last 77 0 [(1, .mptr 0 0), (4, .str a1.Text), (41, .bool (eqI a1.Kind 6))] [[.int .i64 a1.Kind, .str a1.Text, .int .i64 a1.At.Line, .int .i64 a1.At.Column]] ?_ fun zz hs => ?_
              · refine st ?_
                simp
              refine seq_le ?_ hs
              rcases sp h with ⟨g67, h⟩ | ⟨g67, h⟩
              · have c68 := eqT g67
                refine condT rfl g67 ?_
                refine awp_seq ?_
                refine cut 77 0 [(1, .mptr 0 0), (4, .str a1.Text), (48, .bool (eqS a1.Text ([] : List UInt8)))] [[.int .i64 a1.Kind, .str a1.Text, .int .i64 a1.At.Line, .int .i64 a1.At.Column]] ?_ ?_
                · refine st ?_
                  simp
                rcases sp h with ⟨g69, h⟩ | ⟨g69, h⟩
                · refine condT rfl g69 ?_
                  refine cut 77 0 [(2, .str ([] : List UInt8)), (3, .bool false)] [[.int .i64 a1.Kind, .str a1.Text, .int .i64 a1.At.Line, .int .i64 a1.At.Column]] ?_ ?_
                  · refine st ?_
                    simp
                  refine awp_ret ?_
                  refine ret_seq ?_
                  refine ret_blk ?_
                  refine ret_seq ?_
                  obtain rfl := Option.some.inj h
                  simp
                · refine condF rfl g69 ?_
                  refine awp_skip ?_
                  refine seq_eq ?_
                  refine cut 77 0 [(1, .mptr 0 0), (4, .str a1.Text), (9, .mptr 1 0)] [[.int .i64 a1.Kind, .str a1.Text, .int .i64 a1.At.Line, .int .i64 a1.At.Column], [.str a1.Text, .int .i64 0]] ?_ ?_
                  · refine st ?_
                    simp
                  obtain ⟨v70, q71, h⟩ := bs h
                  refine cut 77 0 [(1, .mptr 0 0), (4, .str a1.Text), (9, .mptr 1 0), (10, .mptr 2 0), (12, .int .i64 v70.2.2.1)] [[.int .i64 a1.Kind, .str a1.Text, .int .i64 a1.At.Line, .int .i64 a1.At.Column], [.str v70.2.2.2.s, .int .i64 v70.2.2.2.at_], [.int .i64 v70.1.Kind, .str v70.1.Text, .int .i64 v70.1.At.Line, .int .i64 v70.1.At.Column]] ?_ ?_
                  · refine st ?_
                    simp
                    have r78 := (lexer_scanner_token_ok fuel (Lexer.scanner.mk a1.Text 0) v70 q71).frame [1] [[.int .i64 a1.Kind, .str a1.Text, .int .i64 a1.At.Line, .int .i64 a1.At.Column], [.str a1.Text, .int .i64 0]] (by simp)
                    try simp [] at r78
                    refine callRaw r78 (by simp []) rfl ?_
                    simp
                  refine cut 77 0 [(2, .str a1.Text), (3, .bool ((eqI v70.2.2.1 0) && ((eqI v70.1.Kind a1.Kind) && (eqI v70.2.2.2.at_ (a1.Text.length : Int)))))] [[.int .i64 a1.Kind, .str a1.Text, .int .i64 a1.At.Line, .int .i64 a1.At.Column], [.str v70.2.2.2.s, .int .i64 v70.2.2.2.at_], [.int .i64 v70.1.Kind, .str v70.1.Text, .int .i64 v70.1.At.Line, .int .i64 v70.1.At.Column]] ?_ ?_
                  · rcases tf (eqI v70.2.2.1 0) with g72 | g72
                    · have c73 := eqT g72
                      rcases tf (eqI v70.1.Kind a1.Kind) with g74 | g74
                      · have c75 := eqT g74
                        refine awp_region_draw [999] mixed (n := 77) rfl (by decide) ?_
                        simp [g72, g74]
                      · have c76 := eqF g74
                        refine awp_region_draw [999] mixed (n := 77) rfl (by decide) ?_
                        simp [g72, g74]
                    · have c77 := eqF g72
                      refine awp_region_draw [999] mixed (n := 77) rfl (by decide) ?_
                      simp [g72]
                  refine awp_ret ?_
                  refine ret_blk ?_
                  refine ret_seq ?_
                  obtain rfl := Option.some.inj h
                  simp
              · have c79 := eqF g67
                refine condF rfl g67 ?_
                refine awp_skip ?_
                refine blk_n ?_
                refine seq_eq ?_
                refine cut 77 0 [(2, .str ([] : List UInt8)), (3, .bool false)] [[.int .i64 a1.Kind, .str a1.Text, .int .i64 a1.At.Line, .int .i64 a1.At.Column]] ?_ ?_
                · refine st ?_
                  simp
                refine awp_ret ?_
                obtain rfl := Option.some.inj h
                simp
end Go.Proofs.Ythbjlmoaceaeeaa
set_option linter.unusedVariables false
set_option linter.unusedSimpArgs false
set_option maxRecDepth 100000
set_option maxHeartbeats 1000000
namespace Go.Proofs.Ythbjlmoaceaeeaa
open Go Go.Abs
theorem lexer_Join_1_ok (fuel : Nat) (t1 : Api.Token) (c2 : (List (List UInt8))) (r : Bool × (List (List UInt8))) (h : M.lexer_Join_1 fuel t1 c2 = some r) : Raw Try.prog 79 [.agg [.int .i64 t1.Kind, .str t1.Text, .int .i64 t1.At.Line, .int .i64 t1.At.Column], .mptr 0 0] [[.osl ⟨1, 9⟩ (c2.map cS)]] (.bool r.1) [[.osl ⟨1, 9⟩ (r.2.map cS)]] := by
  rw [M.lexer_Join_1] at h
  refine raw_of_bodyB Try.func79 (by rfl) (by rfl) (by simp) (by simp) ?_
  refine cut 17 1 [(1, .mptr 0 0), (2, .mptr 1 0)] [[.osl ⟨1, 9⟩ (c2.map cS)], [.int .i64 t1.Kind, .str t1.Text, .int .i64 t1.At.Line, .int .i64 t1.At.Column]] ?_ ?_
  · refine st ?_
    simp
  obtain ⟨v3, q4, h⟩ := bs h
  refine cut 17 1 [(1, .mptr 0 0), (4, .str v3.1), (5, .bool v3.2)] [[.osl ⟨1, 9⟩ (c2.map cS)], [.int .i64 t1.Kind, .str t1.Text, .int .i64 t1.At.Line, .int .i64 t1.At.Column]] ?_ ?_
  · refine st ?_
    simp
    have r9 := lexer_written_ok fuel t1 v3 q4
    try simp [] at r9
    refine callPure r9 (by simp) rfl ?_
    simp
  obtain ⟨l5, q6, h⟩ := bs h
  obtain ⟨q7, q8⟩ := app_ok q6
  try simp at q7
  refine cut 17 1 [(5, .bool v3.2)] [[.osl ⟨1, 9⟩ (l5.map cS)], [.int .i64 t1.Kind, .str t1.Text, .int .i64 t1.At.Line, .int .i64 t1.At.Column]] ?_ ?_
  · refine st ?_
    simp [q7, q8]
  refine cut 17 1 [(3, .bool (!v3.2))] [[.osl ⟨1, 9⟩ (l5.map cS)], [.int .i64 t1.Kind, .str t1.Text, .int .i64 t1.At.Line, .int .i64 t1.At.Column]] ?_ ?_
  · refine st ?_
    simp
  refine awp_ret ?_
  obtain rfl := Option.some.inj h
  simp
end Go.Proofs.Ythbjlmoaceaeeaa
set_option linter.unusedVariables false
set_option linter.unusedSimpArgs false
set_option maxRecDepth 100000
set_option maxHeartbeats 1000000
namespace Go.Proofs.Ythbjlmoaceaeeaa
open Go Go.Abs
theorem slices_IndexFunc_api_Token_Join_1_ok (fuel : Nat) (s1 : (List Api.Token)) (c2 : (List (List UInt8))) (r : Int × (List (List UInt8))) (h : M.slices_IndexFunc_api_Token_Join_1 fuel s1 c2 = some r) : Raw Try.prog 125 [.sl (s1.map Api.Token.c), .fn (.func 79) [] [.mptr 0 0]] [[.osl ⟨1, 9⟩ (c2.map cS)]] (.int .i64 r.1) [[.osl ⟨1, 9⟩ (r.2.map cS)]] := by
  rw [M.slices_IndexFunc_api_Token_Join_1] at h
  refine raw_of_bodyB Try.func125 (by rfl) (by rfl) (by simp) (by simp) ?_
  refine cut 19 1 [(0, .sl (s1.map Api.Token.c)), (1, .fn (.func 79) [] [.mptr 0 0])] [[.osl ⟨1, 9⟩ (c2.map cS)]] ?_ ?_
  · refine st ?_
    simp
  refine awp_seq ?_
  refine cut 19 1 [(0, .sl (s1.map Api.Token.c)), (1, .fn (.func 79) [] [.mptr 0 0]), (7, .int .i64 (s1.length : Int)), (8, .int .i64 0)] [[.osl ⟨1, 9⟩ (c2.map cS)]] ?_ ?_
  · refine st ?_
    simp
  refine awp_block ?_
  obtain ⟨o6, l7, h⟩ := bs h
  refine awp_inv (fun p : Nat × (List (List UInt8)) × Nat => mkS 19 1 [(0, .sl (s1.map Api.Token.c)), (1, .fn (.func 79) [] [.mptr 0 0]), (7, .int .i64 (s1.length : Int)), (8, .int .i64 ((p.2.2 : Nat) : Int))] [[.osl ⟨1, 9⟩ (p.2.1.map cS)]]) (fun p => M.slices_IndexFunc_api_Token_Join_1_l1 fuel s1 p.1 p.2.1 p.2.2 = some o6) (fun p => p.1) (fuel, c2, 0) l7 (le_mkS (by simp)) ?_
  rintro ⟨k8, a3, i4⟩ l7
  dsimp only at l7 ⊢
  cases k8 with
  | zero =>
    rw [M.slices_IndexFunc_api_Token_Join_1_l1] at l7; cases l7
  | succ k9 =>
    rw [M.slices_IndexFunc_api_Token_Join_1_l1] at l7
    refine cut 19 1 [(0, .sl (s1.map Api.Token.c)), (1, .fn (.func 79) [] [.mptr 0 0]), (7, .int .i64 (s1.length : Int)), (8, .int .i64 ((i4 : Nat) : Int)), (9, .bool (ltI ((i4 : Nat) : Int) (s1.length : Int)))] [[.osl ⟨1, 9⟩ (a3.map cS)]] ?_ ?_
    · refine st ?_
      simp
    refine awp_seq ?_
    rcases sp l7 with ⟨g10, l7⟩ | ⟨g10, l7⟩
    · have c11 := ltT g10
      refine condT rfl g10 ?_
      refine factL 0 rfl fun f12 => ?_
      rw [List.length_map] at f12
      refine awp_skip ?_
      refine seq_eq ?_
      refine awp_seq ?_
      refine awp_block ?_
      refine cut 19 1 [(0, .sl (s1.map Api.Token.c)), (1, .fn (.func 79) [] [.mptr 0 0]), (5, .int .i64 ((i4 : Nat) : Int)), (7, .int .i64 (s1.length : Int)), (8, .int .i64 ((i4 : Nat) : Int))] [[.osl ⟨1, 9⟩ (a3.map cS)]] ?_ ?_
      · refine st ?_
        simp
      obtain ⟨x13, q14, l7⟩ := bs l7
      obtain ⟨v15, q16, l7⟩ := bs l7
      refine cut 19 1 [(0, .sl (s1.map Api.Token.c)), (1, .fn (.func 79) [] [.mptr 0 0]), (5, .int .i64 ((i4 : Nat) : Int)), (7, .int .i64 (s1.length : Int)), (8, .int .i64 ((i4 : Nat) : Int)), (16, .bool v15.1)] [[.osl ⟨1, 9⟩ (v15.2.map cS)]] ?_ ?_
      · refine st ?_
        simp [q14]
        have r19 := (lexer_Join_1_ok fuel x13 a3 v15 q16).frame [0] [[.osl ⟨1, 9⟩ (a3.map cS)]] (by simp)
        try simp [q14] at r19
        refine callRaw r19 (by simp [q14]) rfl ?_
        simp [q14]
      rcases sp l7 with ⟨g17, l7⟩ | ⟨g17, l7⟩
      · refine condT rfl g17 ?_
        refine cut 19 1 [(4, .int .i64 ((i4 : Nat) : Int))] [[.osl ⟨1, 9⟩ (v15.2.map cS)]] ?_ ?_
        · refine st ?_
          simp
        refine awp_ret ?_
        refine ret_blk ?_
        refine ret_seq ?_
        replace h := retL l7 h
        refine ret_seq ?_
        refine ret_blk ?_
        refine ret_seq ?_
        obtain rfl := Option.some.inj h
        simp
      · refine condF rfl g17 ?_
        refine awp_skip ?_
        refine blk_n ?_
        refine seq_eq ?_
        have q18 : Rng .i64 (((i4 : Nat) : Int) + 1) := by simp only [Rng, inR]; omega
        try simp at q18
        refine last 19 1 [(0, .sl (s1.map Api.Token.c)), (1, .fn (.func 79) [] [.mptr 0 0]), (7, .int .i64 (s1.length : Int)), (8, .int .i64 ((i4 + 1 : Nat) : Int))] [[.osl ⟨1, 9⟩ (v15.2.map cS)]] ?_ fun zz hs => ?_
        · refine st ?_
          simp [q18]
        exact ⟨(k9, v15.2, i4 + 1), hs, l7, by simp⟩
    · have c20 := ltF g10
      refine condF rfl g10 ?_
      refine factL 0 rfl fun f21 => ?_
      rw [List.length_map] at f21
      refine awp_exit ?_
      refine exit_seq ?_
      rcases o6 with o6 | o5
      · cases l7
      have q22 := Sum.inr.inj (Option.some.inj l7)
      replace h := elimR h
      have q22 := q22.symm
      refine exit_seq ?_
      refine exit_blk ?_
      refine seq_le (t := mkS 19 1 [] [[.osl ⟨1, 9⟩ (o5.map cS)]]) ?_ (le_mkS (by simp [q22]))
      refine cut 19 1 [(4, .int .i64 (-1))] [[.osl ⟨1, 9⟩ (o5.map cS)]] ?_ ?_
      · refine st ?_
        simp
      refine awp_ret ?_
      obtain rfl := Option.some.inj h
      simp
end Go.Proofs.Ythbjlmoaceaeeaa
set_option linter.unusedVariables false
set_option linter.unusedSimpArgs false
set_option maxRecDepth 100000
set_option maxHeartbeats 1000000
namespace Go.Proofs.Ythbjlmoaceaeeaa
open Go Go.Abs
theorem slices_ContainsFunc_api_Token_Join_1_ok (fuel : Nat) (s1 : (List Api.Token)) (c2 : (List (List UInt8))) (r : Bool × (List (List UInt8))) (h : M.slices_ContainsFunc_api_Token_Join_1 fuel s1 c2 = some r) : Raw Try.prog 77 [.sl (s1.map Api.Token.c), .fn (.func 79) [] [.mptr 0 0]] [[.osl ⟨1, 9⟩ (c2.map cS)]] (.bool r.1) [[.osl ⟨1, 9⟩ (r.2.map cS)]] := by
  rw [M.slices_ContainsFunc_api_Token_Join_1] at h
  refine raw_of_bodyB Try.func77 (by rfl) (by rfl) (by simp) (by simp) ?_
  refine cut 9 1 [(0, .sl (s1.map Api.Token.c)), (1, .fn (.func 79) [] [.mptr 0 0])] [[.osl ⟨1, 9⟩ (c2.map cS)]] ?_ ?_
  · refine st ?_
    simp
  obtain ⟨v3, q4, h⟩ := bs h
  refine cut 9 1 [(4, .bool (leI 0 v3.1))] [[.osl ⟨1, 9⟩ (v3.2.map cS)]] ?_ ?_
  · refine st ?_
    simp
    have r5 := (slices_IndexFunc_api_Token_Join_1_ok fuel s1 c2 v3 q4).frame [0] [[.osl ⟨1, 9⟩ (c2.map cS)]] (by simp)
    try simp [] at r5
    refine callRaw r5 (by simp []) rfl ?_
    simp
  refine awp_ret ?_
  obtain rfl := Option.some.inj h
  simp
end Go.Proofs.Ythbjlmoaceaeeaa
set_option linter.unusedVariables false
set_option linter.unusedSimpArgs false
set_option maxRecDepth 100000
set_option maxHeartbeats 1000000
namespace Go.Proofs.Ythbjlmoaceaeeaa
open Go Go.Abs
theorem lexer_Join_ok (fuel : Nat) (l1 : (List Api.Token)) (r : (List UInt8) × Int) (h : M.lexer_Join fuel l1 = some r) : Pure Try.prog 42 [.sl (l1.map Api.Token.c)] (.tup [.str r.1, .int .i64 r.2]) := by
  rw [M.lexer_Join] at h
  refine pure_of_body Try.func42 (by rfl) (by rfl) (by simp) (by simp) (by simp) ?_
  refine cut 48 0 [(0, .sl (l1.map Api.Token.c))] [] ?_ ?_
  · refine st ?_
    simp
  refine awp_seq ?_
  refine cut 48 0 [(0, .sl (l1.map Api.Token.c)), (4, .int .i64 (l1.length : Int))] [] ?_ ?_
  · refine st ?_
    simp
  obtain ⟨b16, q17, h⟩ := bs h
  refine cut 48 0 [(0, .sl (l1.map Api.Token.c)), (4, .int .i64 (l1.length : Int)), (28, .bool b16)] [] ?_ ?_
  · rcases sp q17 with ⟨g2, q17⟩ | ⟨g2, q17⟩
    · have c3 := ltT g2
      refine factL 0 rfl fun f4 => ?_
      rw [List.length_map] at f4
      have q5 : Rng .i64 ((l1.length : Int) - 1) := by simp only [Rng, inR]; omega
      try simp at q5
      obtain ⟨x6, q7, q17⟩ := bs q17
      obtain ⟨q8, q9⟩ := idxp_ok q7
      rcases sp q17 with ⟨g10, q17⟩ | ⟨g10, q17⟩
      · have c11 := eqT g10
        have q12 : Rng .i64 ((l1.length : Int) - 1) := by simp only [Rng, inR]; omega
        try simp at q12
        obtain rfl := Option.some.inj q17
        refine st ?_
        simp [g2, q5, q8, q9, g10, q12]
      · have c13 := eqF g10
        obtain rfl := Option.some.inj q17
        refine st ?_
        simp [g2, q5, q8, q9, g10]
    · have c14 := ltF g2
      refine factL 0 rfl fun f15 => ?_
      rw [List.length_map] at f15
      obtain rfl := Option.some.inj q17
      refine st ?_
      simp [g2]
  rcases sp h with ⟨g18, h⟩ | ⟨g18, h⟩
  · refine condT rfl g18 ?_
    obtain ⟨n19, q20, h⟩ := bs h
    obtain ⟨q21, q22⟩ := chk_ok q20
    try simp at q21
    try simp at q22
    have c23 := q21; simp only [Rng, inR] at c23
    obtain ⟨l24, q25, h⟩ := bs h
    obtain ⟨q26, q27⟩ := subC_ok q25
    try simp at q26
    try simp at q27
    refine last 48 0 [(0, .sl (l24.map Api.Token.c))] [] ?_ fun zz hs => ?_
    · refine st ?_
      simp [q21, q22, q26, q27]
    refine seq_le ?_ hs
    refine awp_seq ?_
    refine cut 48 0 [(0, .sl (l24.map Api.Token.c)), (35, .bool (ltI 20000 (l24.length : Int)))] [] ?_ ?_
    · refine st ?_
      simp
    rcases sp h with ⟨g28, h⟩ | ⟨g28, h⟩
    · have c29 := ltT g28
      refine condT rfl g28 ?_
      refine factL 0 rfl fun f30 => ?_
      rw [List.length_map] at f30
      refine cut 48 0 [(2, .str ([] : List UInt8)), (3, .int .i64 5)] [] ?_ ?_
      · refine st ?_
        simp
      refine awp_ret ?_
      refine ret_seq ?_
      obtain rfl := Option.some.inj h
      simp
    · have c31 := ltF g28
      refine condF rfl g28 ?_
      refine factL 0 rfl fun f32 => ?_
      rw [List.length_map] at f32
      refine awp_skip ?_
      refine seq_eq ?_
      obtain ⟨u33, q34, h⟩ := bs h
      obtain ⟨q35, q36⟩ := mkC_ok q34
      refine cut 48 0 [(0, .sl (l24.map Api.Token.c)), (5, .mptr 0 0)] [[.osl ⟨1, 9⟩ (([] : List (List UInt8)).map cS)]] ?_ ?_
      · refine st ?_
        simp [q35, q36]
      refine awp_seq ?_
      obtain ⟨v37, q38, h⟩ := bs h
      refine cut 48 0 [(5, .mptr 0 0), (41, .bool v37.1)] [[.osl ⟨1, 9⟩ (v37.2.map cS)]] ?_ ?_
      · refine st ?_
        simp
        have r48 := (slices_ContainsFunc_api_Token_Join_1_ok fuel l24 ([] : List (List UInt8)) v37 q38).frame [0] [[.osl ⟨1, 9⟩ (([] : List (List UInt8)).map cS)]] (by simp)
        try simp [] at r48
        refine callRaw r48 (by simp []) rfl ?_
        simp
      rcases sp h with ⟨g39, h⟩ | ⟨g39, h⟩
      · refine condT rfl g39 ?_
        refine cut 48 0 [(2, .str ([] : List UInt8)), (3, .int .i64 3)] [[.osl ⟨1, 9⟩ (v37.2.map cS)]] ?_ ?_
        · refine st ?_
          simp
        refine awp_ret ?_
        refine ret_seq ?_
        obtain rfl := Option.some.inj h
        simp
      · refine condF rfl g39 ?_
        refine awp_skip ?_
        refine seq_eq ?_
        obtain ⟨v40, q41, h⟩ := bs h
        refine cut 48 0 [(6, .str v40)] [[.osl ⟨1, 9⟩ (v37.2.map cS)]] ?_ ?_
        · refine st ?_
          simp
          have r47 := strings_Join_ok v37.2 [32] v40 q41
          try simp [] at r47
          refine callPure r47 (by simp) rfl ?_
          simp
        refine awp_seq ?_
        refine cut 48 0 [(6, .str v40), (46, .bool (ltI 16384 (v40.length : Int)))] [[.osl ⟨1, 9⟩ (v37.2.map cS)]] ?_ ?_
        · refine st ?_
          simp
        rcases sp h with ⟨g42, h⟩ | ⟨g42, h⟩
        · have c43 := ltT g42
          refine condT rfl g42 ?_
          refine factS 6 rfl fun f44 => ?_
          refine cut 48 0 [(2, .str ([] : List UInt8)), (3, .int .i64 5)] [[.osl ⟨1, 9⟩ (v37.2.map cS)]] ?_ ?_
          · refine st ?_
            simp
          refine awp_ret ?_
          refine ret_seq ?_
          obtain rfl := Option.some.inj h
          simp
        · have c45 := ltF g42
          refine condF rfl g42 ?_
          refine factS 6 rfl fun f46 => ?_
          refine awp_skip ?_
          refine seq_eq ?_
          refine cut 48 0 [(2, .str v40), (3, .int .i64 0)] [[.osl ⟨1, 9⟩ (v37.2.map cS)]] ?_ ?_
          · refine st ?_
            simp
          refine awp_ret ?_
          obtain rfl := Option.some.inj h
          simp
  · refine condF rfl g18 ?_
    refine awp_skip ?_
    refine seq_eq ?_
    refine awp_seq ?_
    refine cut 48 0 [(0, .sl (l1.map Api.Token.c)), (35, .bool (ltI 20000 (l1.length : Int)))] [] ?_ ?_
    · refine st ?_
      simp
    rcases sp h with ⟨g49, h⟩ | ⟨g49, h⟩
    · have c50 := ltT g49
      refine condT rfl g49 ?_
      refine factL 0 rfl fun f51 => ?_
      rw [List.length_map] at f51
      refine cut 48 0 [(2, .str ([] : List UInt8)), (3, .int .i64 5)] [] ?_ ?_
      · refine st ?_
        simp
      refine awp_ret ?_
      refine ret_seq ?_
      obtain rfl := Option.some.inj h
      simp
    · have c52 := ltF g49
      refine condF rfl g49 ?_
      refine factL 0 rfl fun f53 => ?_
      rw [List.length_map] at f53
      refine awp_skip ?_
      refine seq_eq ?_
      obtain ⟨u54, q55, h⟩ := bs h
      obtain ⟨q56, q57⟩ := mkC_ok q55
      refine cut 48 0 [(0, .sl (l1.map Api.Token.c)), (5, .mptr 0 0)] [[.osl ⟨1, 9⟩ (([] : List (List UInt8)).map cS)]] ?_ ?_
      · refine st ?_
        simp [q56, q57]
      refine awp_seq ?_
      obtain ⟨v58, q59, h⟩ := bs h
      refine cut 48 0 [(5, .mptr 0 0), (41, .bool v58.1)] [[.osl ⟨1, 9⟩ (v58.2.map cS)]] ?_ ?_
      · refine st ?_
        simp
        have r69 := (slices_ContainsFunc_api_Token_Join_1_ok fuel l1 ([] : List (List UInt8)) v58 q59).frame [0] [[.osl ⟨1, 9⟩ (([] : List (List UInt8)).map cS)]] (by simp)
        try simp [] at r69
        refine callRaw r69 (by simp []) rfl ?_
        simp
      rcases sp h with ⟨g60, h⟩ | ⟨g60, h⟩
      · refine condT rfl g60 ?_
        refine cut 48 0 [(2, .str ([] : List UInt8)), (3, .int .i64 3)] [[.osl ⟨1, 9⟩ (v58.2.map cS)]] ?_ ?_
        · refine st ?_
          simp
        refine awp_ret ?_
        refine ret_seq ?_
        obtain rfl := Option.some.inj h
        simp
      · refine condF rfl g60 ?_
        refine awp_skip ?_
        refine seq_eq ?_
        obtain ⟨v61, q62, h⟩ := bs h
        refine cut 48 0 [(6, .str v61)] [[.osl ⟨1, 9⟩ (v58.2.map cS)]] ?_ ?_
        · refine st ?_
          simp
          have r68 := strings_Join_ok v58.2 [32] v61 q62
          try simp [] at r68
          refine callPure r68 (by simp) rfl ?_
          simp
        refine awp_seq ?_
        refine cut 48 0 [(6, .str v61), (46, .bool (ltI 16384 (v61.length : Int)))] [[.osl ⟨1, 9⟩ (v58.2.map cS)]] ?_ ?_
        · refine st ?_
          simp
        rcases sp h with ⟨g63, h⟩ | ⟨g63, h⟩
        · have c64 := ltT g63
          refine condT rfl g63 ?_
          refine factS 6 rfl fun f65 => ?_
          refine cut 48 0 [(2, .str ([] : List UInt8)), (3, .int .i64 5)] [[.osl ⟨1, 9⟩ (v58.2.map cS)]] ?_ ?_
          · refine st ?_
            simp
          refine awp_ret ?_
          refine ret_seq ?_
          obtain rfl := Option.some.inj h
          simp
        · have c66 := ltF g63
          refine condF rfl g63 ?_
          refine factS 6 rfl fun f67 => ?_
          refine awp_skip ?_
          refine seq_eq ?_
          refine cut 48 0 [(2, .str v61), (3, .int .i64 0)] [[.osl ⟨1, 9⟩ (v58.2.map cS)]] ?_ ?_
          · refine st ?_
            simp
          refine awp_ret ?_
          obtain rfl := Option.some.inj h
          simp
end Go.Proofs.Ythbjlmoaceaeeaa
set_option linter.unusedVariables false
set_option linter.unusedSimpArgs false
set_option maxRecDepth 100000
set_option maxHeartbeats 1000000
namespace Go.Proofs.Ythbjlmoaceaeeaa
open Go Go.Abs
theorem law02_LexerBack_1_ok (fuel : Nat) (a1 : (List Api.Token)) (r : Bool) (h : M.law02_LexerBack_1 fuel a1 = some r) : Pure Try.prog 44 [.sl (a1.map Api.Token.c)] (.bool r) := by
  rw [M.law02_LexerBack_1] at h
  refine pure_of_body Try.func44 (by rfl) (by rfl) (by simp) (by simp) (by simp) ?_
  refine cut 65 0 [(0, .sl (a1.map Api.Token.c))] [] ?_ ?_
  · refine st ?_
    simp
  obtain ⟨v2, q3, h⟩ := bs h
  refine cut 65 0 [(0, .sl (a1.map Api.Token.c)), (3, .str v2.1), (4, .int .i64 v2.2)] [] ?_ ?_
  · refine st ?_
    simp
    have r78 := lexer_Join_ok fuel a1 v2 q3
    try simp [] at r78
    refine callPure r78 (by simp) rfl ?_
    simp
  refine awp_seq ?_
  refine cut 65 0 [(0, .sl (a1.map Api.Token.c)), (3, .str v2.1), (15, .bool (!(eqI v2.2 0)))] [] ?_ ?_
  · refine st ?_
    simp
  rcases sp h with ⟨g4, h⟩ | ⟨g4, h⟩
  · have g5 := notT g4
    have c6 := eqF g5
    refine condT rfl g4 ?_
    refine cut 65 0 [(2, .bool (eqS v2.1 ([] : List UInt8)))] [] ?_ ?_
    · refine st ?_
      simp
    refine awp_ret ?_
    refine ret_seq ?_
    obtain rfl := Option.some.inj h
    simp
  · have g7 := notF g4
    have c8 := eqT g7
    refine condF rfl g4 ?_
    refine awp_skip ?_
    refine seq_eq ?_
    obtain ⟨v9, q10, h⟩ := bs h
    refine cut 65 0 [(0, .sl (a1.map Api.Token.c)), (5, .sl (v9.1.map Api.Token.c)), (7, .int .i64 v9.2.2)] [[.int .i64 v9.2.1.Line, .int .i64 v9.2.1.Column]] ?_ ?_
    · refine st ?_
      simp
      have r77 := lexer_Tokens_ok fuel v2.1 v9 q10
      try simp [] at r77
      refine callPure r77 (by simp) rfl ?_
      simp
    refine awp_seq ?_
    obtain ⟨b28, q29, h⟩ := bs h
    refine cut 65 0 [(0, .sl (a1.map Api.Token.c)), (5, .sl (v9.1.map Api.Token.c)), (40, .bool b28)] [[.int .i64 v9.2.1.Line, .int .i64 v9.2.1.Column]] ?_ ?_
    · rcases sp q29 with ⟨g11, q29⟩ | ⟨g11, q29⟩
      · have g12 := notT g11
        have c13 := eqF g12
        obtain rfl := Option.some.inj q29
        refine st ?_
        simp [g11]
      · have g14 := notF g11
        have c15 := eqT g14
        rcases sp q29 with ⟨g16, q29⟩ | ⟨g16, q29⟩
        · have c17 := eqT g16
          obtain rfl := Option.some.inj q29
          refine st ?_
          simp [g11, g16]
        · have c18 := eqF g16
          obtain ⟨n19, q20, q29⟩ := bs q29
          obtain ⟨q21, q22⟩ := chk_ok q20
          try simp at q21
          try simp at q22
          have c23 := q21; simp only [Rng, inR] at c23
          obtain ⟨x24, q25, q29⟩ := bs q29
          obtain ⟨q26, q27⟩ := idx_ok q25
          obtain rfl := Option.some.inj q29
          refine st ?_
          simp [g11, g16, q21, q22, q26, q27]
    rcases sp h with ⟨g30, h⟩ | ⟨g30, h⟩
    · refine condT rfl g30 ?_
      refine cut 65 0 [(2, .bool false)] [[.int .i64 v9.2.1.Line, .int .i64 v9.2.1.Column]] ?_ ?_
      · refine st ?_
        simp
      refine awp_ret ?_
      refine ret_seq ?_
      obtain rfl := Option.some.inj h
      simp
    · refine condF rfl g30 ?_
      refine awp_skip ?_
      refine seq_eq ?_
      refine awp_seq ?_
      refine cut 65 0 [(0, .sl (a1.map Api.Token.c)), (5, .sl (v9.1.map Api.Token.c)), (8, .int .i64 (a1.length : Int))] [[.int .i64 v9.2.1.Line, .int .i64 v9.2.1.Column]] ?_ ?_
      · refine st ?_
        simp
      obtain ⟨b41, q42, h⟩ := bs h
      refine cut 65 0 [(0, .sl (a1.map Api.Token.c)), (5, .sl (v9.1.map Api.Token.c)), (8, .int .i64 (a1.length : Int)), (53, .bool b41)] [[.int .i64 v9.2.1.Line, .int .i64 v9.2.1.Column]] ?_ ?_
      · rcases sp q42 with ⟨g31, q42⟩ | ⟨g31, q42⟩
        · have c32 := ltT g31
          refine factL 0 rfl fun f33 => ?_
          rw [List.length_map] at f33
          have q34 : Rng .i64 ((a1.length : Int) - 1) := by simp only [Rng, inR]; omega
          try simp at q34
          obtain ⟨x35, q36, q42⟩ := bs q42
          obtain ⟨q37, q38⟩ := idxp_ok q36
          obtain rfl := Option.some.inj q42
          refine st ?_
          simp [g31, q34, q37, q38]
        · have c39 := ltF g31
          refine factL 0 rfl fun f40 => ?_
          rw [List.length_map] at f40
          obtain rfl := Option.some.inj q42
          refine st ?_
          simp [g31]
      rcases sp h with ⟨g43, h⟩ | ⟨g43, h⟩
      · refine condT rfl g43 ?_
        obtain ⟨n44, q45, h⟩ := bs h
        obtain ⟨q46, q47⟩ := chk_ok q45
        try simp at q46
        try simp at q47
        have c48 := q46; simp only [Rng, inR] at c48
        obtain ⟨l49, q50, h⟩ := bs h
        obtain ⟨q51, q52⟩ := subC_ok q50
        try simp at q51
        try simp at q52
        refine last 65 0 [(0, .sl (l49.map Api.Token.c)), (5, .sl (v9.1.map Api.Token.c))] [[.int .i64 v9.2.1.Line, .int .i64 v9.2.1.Column]] ?_ fun zz hs => ?_
        · refine st ?_
          simp [q46, q47, q51, q52]
        refine seq_le ?_ hs
        obtain ⟨n53, q54, h⟩ := bs h
        obtain ⟨q55, q56⟩ := chk_ok q54
        try simp at q55
        try simp at q56
        have c57 := q55; simp only [Rng, inR] at c57
        obtain ⟨l58, q59, h⟩ := bs h
        obtain ⟨q60, q61⟩ := subC_ok q59
        try simp at q60
        try simp at q61
        obtain ⟨v62, q63, h⟩ := bs h
        refine cut 65 0 [(2, .bool v62)] [[.int .i64 v9.2.1.Line, .int .i64 v9.2.1.Column]] ?_ ?_
        · refine st ?_
          simp [q55, q56, q60, q61]
          have r64 := ref02_Same_ok fuel l49 l58 false v62 q63
          try simp [q55, q56, q60, q61] at r64
          refine callPure r64 (by simp) rfl ?_
          simp [q55, q56, q60, q61]
        refine awp_ret ?_
        obtain rfl := Option.some.inj h
        simp
      · refine condF rfl g43 ?_
        refine awp_skip ?_
        refine seq_eq ?_
        obtain ⟨n65, q66, h⟩ := bs h
        obtain ⟨q67, q68⟩ := chk_ok q66
        try simp at q67
        try simp at q68
        have c69 := q67; simp only [Rng, inR] at c69
        obtain ⟨l70, q71, h⟩ := bs h
        obtain ⟨q72, q73⟩ := subC_ok q71
        try simp at q72
        try simp at q73
        obtain ⟨v74, q75, h⟩ := bs h
        refine cut 65 0 [(2, .bool v74)] [[.int .i64 v9.2.1.Line, .int .i64 v9.2.1.Column]] ?_ ?_
        · refine st ?_
          simp [q67, q68, q72, q73]
          have r76 := ref02_Same_ok fuel a1 l70 false v74 q75
          try simp [q67, q68, q72, q73] at r76
          refine callPure r76 (by simp) rfl ?_
          simp [q67, q68, q72, q73]
        refine awp_ret ?_
        obtain rfl := Option.some.inj h
        simp
end Go.Proofs.Ythbjlmoaceaeeaa
set_option linter.unusedVariables false
set_option linter.unusedSimpArgs false
set_option maxRecDepth 100000
set_option maxHeartbeats 1000000
namespace Go.Proofs.Ythbjlmoaceaeeaa
open Go Go.Abs
theorem law02_LexerBack_ok (fuel : Nat) (l1 : (List Api.Token)) (s2 : (List UInt8)) (r : Bool) (h : M.law02_LexerBack fuel l1 s2 = some r) : Pure Try.prog 12 [.sl (l1.map Api.Token.c), .str s2] (.bool r) := by
  rw [M.law02_LexerBack] at h
  refine pure_of_body Try.func12 (by rfl) (by rfl) (by simp) (by simp) (by simp) ?_
  refine cut 43 0 [(0, .sl (l1.map Api.Token.c)), (1, .str s2)] [] ?_ ?_
  · refine st ?_
    simp
  refine awp_seq ?_
  obtain ⟨v3, q4, h⟩ := bs h
  refine cut 43 0 [(0, .sl (l1.map Api.Token.c)), (1, .str s2), (10, .bool (!v3))] [] ?_ ?_
  · refine st ?_
    simp
    have r41 := law02_awake_ok fuel v3 q4
    try simp [] at r41
    refine callPure r41 (by simp) rfl ?_
    simp
  rcases sp h with ⟨g5, h⟩ | ⟨g5, h⟩
  · have g6 := notT g5
    refine condT rfl g5 ?_
    refine cut 43 0 [(4, .bool false)] [] ?_ ?_
    · refine st ?_
      simp
    refine awp_ret ?_
    refine ret_seq ?_
    obtain rfl := Option.some.inj h
    simp
  · have g7 := notF g5
    refine condF rfl g5 ?_
    refine awp_skip ?_
    refine seq_eq ?_
    refine awp_seq ?_
    obtain ⟨b13, q14, h⟩ := bs h
    refine cut 43 0 [(0, .sl (l1.map Api.Token.c)), (1, .str s2), (16, .bool b13)] [] ?_ ?_
    · obtain ⟨v8, q9, q14⟩ := bs q14
      rcases sp q14 with ⟨g10, q14⟩ | ⟨g10, q14⟩
      · obtain rfl := Option.some.inj q14
        refine st ?_
        simp [g10]
        have r38 := law02_many_ok fuel l1 v8 q9
        try simp [g10] at r38
        refine callPure r38 (by simp) rfl ?_
        simp [g10]
      · obtain ⟨v11, q12, q14⟩ := bs q14
        obtain rfl := Option.some.inj q14
        refine st ?_
        simp [g10]
        have r39 := law02_many_ok fuel l1 v8 q9
        try simp [g10] at r39
        refine callPure r39 (by simp) rfl ?_
        simp [g10]
        have r40 := law02_long_ok s2 v11 q12
        try simp [g10] at r40
        refine callPure r40 (by simp) rfl ?_
        simp [g10]
    rcases sp h with ⟨g15, h⟩ | ⟨g15, h⟩
    · refine condT rfl g15 ?_
      refine cut 43 0 [(4, .bool true)] [] ?_ ?_
      · refine st ?_
        simp
      refine awp_ret ?_
      refine ret_seq ?_
      obtain rfl := Option.some.inj h
      simp
    · refine condF rfl g15 ?_
      refine awp_skip ?_
      refine seq_eq ?_
      refine cut 43 0 [(0, .sl (l1.map Api.Token.c)), (1, .str s2), (5, .fn (.func 44) [] [])] [] ?_ ?_
      · refine st ?_
        simp
      refine awp_seq ?_
      obtain ⟨v16, q17, h⟩ := bs h
      refine cut 43 0 [(1, .str s2), (5, .fn (.func 44) [] []), (20, .bool (!v16))] [] ?_ ?_
      · refine st ?_
        simp
        have r37 := law02_LexerBack_1_ok fuel l1 v16 q17
        try simp [] at r37
        refine callPure r37 (by simp) rfl ?_
        simp
      rcases sp h with ⟨g18, h⟩ | ⟨g18, h⟩
      · have g19 := notT g18
        refine condT rfl g18 ?_
        refine cut 43 0 [(4, .bool false)] [] ?_ ?_
        · refine st ?_
          simp
        refine awp_ret ?_
        refine ret_seq ?_
        obtain rfl := Option.some.inj h
        simp
      · have g20 := notF g18
        refine condF rfl g18 ?_
        refine awp_skip ?_
        refine seq_eq ?_
        obtain ⟨v21, q22, h⟩ := bs h
        refine cut 43 0 [(5, .fn (.func 44) [] []), (6, .sl (v21.1.map Api.Token.c)), (8, .int .i64 v21.2.2)] [[.int .i64 v21.2.1.Line, .int .i64 v21.2.1.Column]] ?_ ?_
        · refine st ?_
          simp
          have r36 := lexer_Tokens_ok fuel s2 v21 q22
          try simp [] at r36
          refine callPure r36 (by simp) rfl ?_
          simp
        obtain ⟨b33, q34, h⟩ := bs h
        refine cut 43 0 [(4, .bool b33)] [[.int .i64 v21.2.1.Line, .int .i64 v21.2.1.Column]] ?_ ?_
        · rcases sp q34 with ⟨g23, q34⟩ | ⟨g23, q34⟩
          · have g24 := notT g23
            have c25 := eqF g24
            rcases sp q34 with ⟨g26, q34⟩ | ⟨g26, q34⟩
            · have c27 := eqT g26
              obtain rfl := Option.some.inj q34
              refine st ?_
              simp [g23, g26]
            · have c28 := eqF g26
              obtain rfl := Option.some.inj q34
              refine st ?_
              simp [g23, g26, g24]
          · have g29 := notF g23
            have c30 := eqT g29
            obtain ⟨v31, q32, q34⟩ := bs q34
            obtain rfl := Option.some.inj q34
            refine st ?_
            simp [g23, g29]
            have r35 := law02_LexerBack_1_ok fuel v21.1 v31 q32
            try simp [g23, g29] at r35
            refine callPure r35 (by simp) rfl ?_
            simp [g23, g29]
        refine awp_ret ?_
        obtain rfl := Option.some.inj h
        simp
end Go.Proofs.Ythbjlmoaceaeeaa
