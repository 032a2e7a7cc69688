/- For every input the law ExplainBack returns true. Part 10 of 14. No condition. -/
import Derived.Test.YtlhikhaailhoaaaDoorLHi
import Derived.Shelf.Strings.Builder1
import Derived.Shelf.Strings.Builder2
import Derived.Shelf.Strings.OnBuilder
import Derived.Shelf.Strings.Search1
import Derived.Shelf.Strings.Search2
import Derived.Shelf.Strings.Search3
import Derived.Shelf.Strings.Cut
import Derived.Shelf.Strings.Count
import Derived.Shelf.LaysM
import Derived.Shelf.Strings.Shaped
import Derived.Shelf.Strings.Split
import Derived.Shelf.Strings.SplitShaped
import Derived.Shelf.Unicode.DecodeSlow
set_option linter.unusedVariables false
namespace Go.Proofs
open Go.Shelf
def Tryd.lays156_ren : Go.Shelf.Ren := ⟨fun | 156 => 28 | 165 => 42 | 166 => 32 | 169 => 34 | 240 => 44 | 241 => 52 | 276 => 57 | 277 => 65 | n => n, fun | 31 => 49 | 9 => 9 | 3 => 3 | 4 => 4 | 0 => 0 | 20 => 20 | 72 => 61 | 76 => 64 | 70 => 58 | 37 => 59 | 75 => 63 | 127 => 73 | 164 => 81 | 5 => 5 | 80 => 67 | n => n, fun | n => n⟩
theorem Tryd.lays156 : Go.Proofs.Lays.n156 Tryd.prog Tryd.lays156_ren := {
  mixed := by kernel_rfl
  f156 := Tryd.func28.trans (congrArg some (by kernel_rfl))
  f165 := Tryd.func42.trans (congrArg some (by kernel_rfl))
  f166 := Tryd.func32.trans (congrArg some (by kernel_rfl))
  f169 := Tryd.func34.trans (congrArg some (by kernel_rfl))
  f240 := Tryd.func44.trans (congrArg some (by kernel_rfl))
  f241 := Tryd.func52.trans (congrArg some (by kernel_rfl))
  f276 := Tryd.func57.trans (congrArg some (by kernel_rfl))
  f277 := Tryd.func65.trans (congrArg some (by kernel_rfl))
  t0 := Tryd.underlying0
  a0 := Tryd.isAgg0
  z0 := Tryd.sizeOf0
  v0 := Tryd.zeroValue0
  t3 := Tryd.underlying3
  a3 := Tryd.isAgg3
  z3 := Tryd.sizeOf3
  v3 := Tryd.zeroValue3
  t4 := Tryd.underlying4
  a4 := Tryd.isAgg4
  z4 := Tryd.sizeOf4
  v4 := Tryd.zeroValue4
  t9 := Tryd.underlying9
  a9 := Tryd.isAgg9
  z9 := Tryd.sizeOf9
  v9 := Tryd.zeroValue9
  t20 := Tryd.underlying20
  a20 := Tryd.isAgg20
  z20 := Tryd.sizeOf20
  v20 := Tryd.zeroValue20
  t31 := Tryd.underlying49
  a31 := Tryd.isAgg49
  z31 := Tryd.sizeOf49
  v31 := Tryd.zeroValue49
  t37 := Tryd.underlying59
  a37 := Tryd.isAgg59
  z37 := Tryd.sizeOf59
  v37 := Tryd.zeroValue59
  t70 := Tryd.underlying58
  a70 := Tryd.isAgg58
  z70 := Tryd.sizeOf58
  v70 := Tryd.zeroValue58
  t72 := Tryd.underlying61
  a72 := Tryd.isAgg61
  z72 := Tryd.sizeOf61
  v72 := Tryd.zeroValue61
  t75 := Tryd.underlying63
  a75 := Tryd.isAgg63
  z75 := Tryd.sizeOf63
  v75 := Tryd.zeroValue63
  t76 := Tryd.underlying64
  a76 := Tryd.isAgg64
  z76 := Tryd.sizeOf64
  v76 := Tryd.zeroValue64
  t127 := Tryd.underlying73
  a127 := Tryd.isAgg73
  z127 := Tryd.sizeOf73
  v127 := Tryd.zeroValue73
  t164 := Tryd.underlying81
  a164 := Tryd.isAgg81
  z164 := Tryd.sizeOf81
  v164 := Tryd.zeroValue81 }
theorem Tryd.Builder_Extra_156 : Builder.Extra Tryd.prog Tryd.lays156_ren := {
  sizeBuilder := by kernel_rfl
  liesBuilder := by kernel_rfl
  t5 := Tryd.underlying5
  a5 := Tryd.isAgg5
  z5 := Tryd.sizeOf5
  v5 := Tryd.zeroValue5
  infoByte := by kernel_rfl
  cellsByte := by kernel_rfl
  sizeByte := by kernel_rfl
  neB5 := by decide }
open Go.RowKit in
theorem Tryd.strings_Join_none (a : Option Addr) (c : Nat) (sep : ByteArray) (w : World) :
    Calls Tryd.prog 28 #[.slice a 0 c, .string sep] w fun e w' => e = .returned (.string ⟨#[]⟩) ∧ w' = w := Any.strings_Join_none Tryd.lays156 Tryd.Builder_Extra_156 a c sep w
open Go.RowKit in
theorem Tryd.strings_Join (bk o c : Nat) (xs : List ByteArray) (sep : ByteArray) (w : World) (hcells : ∀ (j : Nat) x, xs[j]? = some x → w.cell? ⟨bk, o + j, none⟩ = some (.string x)) (hbk : bk < w.heap.size) (hN : xs.length ≤ 140737488355328) (hcap : xs.length ≤ c) (hlen : (Lib.join (xs.map (·.data.toList)) sep.data.toList).length ≤ 140737488355328) :
    Calls Tryd.prog 28 #[.slice (some ⟨bk, o, none⟩) xs.length c, .string sep] w fun e w' => e = .returned (.string ⟨(Lib.join (xs.map (·.data.toList)) sep.data.toList).toArray⟩) ∧ Below w.heap.size w w' := Any.strings_Join Tryd.lays156 Tryd.Builder_Extra_156 bk o c xs sep w hcells hbk hN hcap hlen
def Tryd.lays144_ren : Go.Shelf.Ren := ⟨fun | 144 => 13 | 143 => 29 | 219 => 43 | 217 => 53 | 225 => 54 | 224 => 55 | 267 => 56 | 266 => 66 | 314 => 67 | n => n, fun | 9 => 9 | 4 => 4 | 3 => 3 | 5 => 5 | 46 => 80 | 146 => 89 | 51 => 88 | n => n, fun | 1 => 0 | n => n⟩
theorem Tryd.lays144 : Go.Proofs.Lays.n144 Tryd.prog Tryd.lays144_ren := {
  mixed := by kernel_rfl
  f143 := Tryd.func29.trans (congrArg some (by kernel_rfl))
  f144 := Tryd.func13.trans (congrArg some (by kernel_rfl))
  f217 := Tryd.func53.trans (congrArg some (by kernel_rfl))
  f219 := Tryd.func43.trans (congrArg some (by kernel_rfl))
  f224 := Tryd.func55.trans (congrArg some (by kernel_rfl))
  f225 := Tryd.func54.trans (congrArg some (by kernel_rfl))
  f266 := Tryd.func66.trans (congrArg some (by kernel_rfl))
  f267 := Tryd.func56.trans (congrArg some (by kernel_rfl))
  f314 := Tryd.func67.trans (congrArg some (by kernel_rfl))
  t3 := Tryd.underlying3
  a3 := Tryd.isAgg3
  z3 := Tryd.sizeOf3
  v3 := Tryd.zeroValue3
  t4 := Tryd.underlying4
  a4 := Tryd.isAgg4
  z4 := Tryd.sizeOf4
  v4 := Tryd.zeroValue4
  t5 := Tryd.underlying5
  a5 := Tryd.isAgg5
  z5 := Tryd.sizeOf5
  v5 := Tryd.zeroValue5
  t9 := Tryd.underlying9
  a9 := Tryd.isAgg9
  z9 := Tryd.sizeOf9
  v9 := Tryd.zeroValue9
  t46 := Tryd.underlying80
  a46 := Tryd.isAgg80
  z46 := Tryd.sizeOf80
  v46 := Tryd.zeroValue80
  t51 := Tryd.underlying88
  a51 := Tryd.isAgg88
  z51 := Tryd.sizeOf88
  v51 := Tryd.zeroValue88
  t146 := Tryd.underlying89
  a146 := Tryd.isAgg89
  z146 := Tryd.sizeOf89
  v146 := Tryd.zeroValue89
  g1 := by kernel_rfl }
open Go.RowKit Go.Lib in
theorem Tryd.strings_Contains_one (s : ByteArray) (c : UInt8) (w : World) :
    Calls Tryd.prog 13 #[.string s, .string ⟨#[c]⟩] w fun e w' => e = .returned (.bool (decide (0 ≤ Lib.indexByte s.data.toList c))) ∧ w' = w := Any.strings_Contains_one Tryd.lays144 s c w
def Tryd.lays145_ren : Go.Shelf.Ren := ⟨fun | 145 => 20 | 220 => 37 | 219 => 43 | 217 => 53 | 225 => 54 | 224 => 55 | 267 => 56 | 266 => 66 | 314 => 67 | n => n, fun | 9 => 9 | 4 => 4 | 59 => 47 | 3 => 3 | 5 => 5 | 46 => 80 | 146 => 89 | 51 => 88 | n => n, fun | 1 => 0 | n => n⟩
theorem Tryd.lays145 : Go.Proofs.Lays.n145 Tryd.prog Tryd.lays145_ren := {
  mixed := by kernel_rfl
  f145 := Tryd.func20.trans (congrArg some (by kernel_rfl))
  f217 := Tryd.func53.trans (congrArg some (by kernel_rfl))
  f219 := Tryd.func43.trans (congrArg some (by kernel_rfl))
  f220 := Tryd.func37.trans (congrArg some (by kernel_rfl))
  f224 := Tryd.func55.trans (congrArg some (by kernel_rfl))
  f225 := Tryd.func54.trans (congrArg some (by kernel_rfl))
  f266 := Tryd.func66.trans (congrArg some (by kernel_rfl))
  f267 := Tryd.func56.trans (congrArg some (by kernel_rfl))
  f314 := Tryd.func67.trans (congrArg some (by kernel_rfl))
  t3 := Tryd.underlying3
  a3 := Tryd.isAgg3
  z3 := Tryd.sizeOf3
  v3 := Tryd.zeroValue3
  t4 := Tryd.underlying4
  a4 := Tryd.isAgg4
  z4 := Tryd.sizeOf4
  v4 := Tryd.zeroValue4
  t5 := Tryd.underlying5
  a5 := Tryd.isAgg5
  z5 := Tryd.sizeOf5
  v5 := Tryd.zeroValue5
  t9 := Tryd.underlying9
  a9 := Tryd.isAgg9
  z9 := Tryd.sizeOf9
  v9 := Tryd.zeroValue9
  t46 := Tryd.underlying80
  a46 := Tryd.isAgg80
  z46 := Tryd.sizeOf80
  v46 := Tryd.zeroValue80
  t51 := Tryd.underlying88
  a51 := Tryd.isAgg88
  z51 := Tryd.sizeOf88
  v51 := Tryd.zeroValue88
  t59 := Tryd.underlying47
  a59 := Tryd.isAgg47
  z59 := Tryd.sizeOf47
  v59 := Tryd.zeroValue47
  t146 := Tryd.underlying89
  a146 := Tryd.isAgg89
  z146 := Tryd.sizeOf89
  v146 := Tryd.zeroValue89
  g1 := by kernel_rfl }
open Go.RowKit Go.Lib in
theorem Tryd.strings_Cut (s sep : ByteArray) (m : Int) (w : World) (hs : s.size < 4294967281) (hm : w.cell? ⟨0, 0, none⟩ = some (.int .i64 m)) :
    Calls Tryd.prog 20 #[.string s, .string sep] w fun e w' => e = .returned (.tuple #[.string ⟨(Lib.cut s.data.toList sep.data.toList).1.toArray⟩, .string ⟨(Lib.cut s.data.toList sep.data.toList).2.1.toArray⟩, .bool (Lib.cut s.data.toList sep.data.toList).2.2]) ∧ ∃ n, w' = w.drewN n := Any.strings_Cut Tryd.lays145 s sep m w hs hm
def Tryd.lays146_ren : Go.Shelf.Ren := ⟨fun | 146 => 21 | 221 => 38 | 268 => 47 | 138 => 48 | 143 => 29 | 195 => 59 | 197 => 60 | 218 => 61 | 219 => 43 | 260 => 69 | 217 => 53 | 225 => 54 | 224 => 55 | 267 => 56 | 266 => 66 | 314 => 67 | n => n, fun | 9 => 9 | 31 => 49 | 3 => 3 | 4 => 4 | 0 => 0 | 105 => 84 | 21 => 21 | 5 => 5 | 46 => 80 | 119 => 91 | 139 => 94 | 138 => 93 | 146 => 89 | 51 => 88 | n => n, fun | 1 => 0 | 3 => 1 | 4 => 2 | n => n⟩
theorem Tryd.lays146 : Go.Proofs.Lays.n146 Tryd.prog Tryd.lays146_ren := {
  mixed := by kernel_rfl
  f138 := Tryd.func48.trans (congrArg some (by kernel_rfl))
  f143 := Tryd.func29.trans (congrArg some (by kernel_rfl))
  f146 := Tryd.func21.trans (congrArg some (by kernel_rfl))
  f195 := Tryd.func59.trans (congrArg some (by kernel_rfl))
  f197 := Tryd.func60.trans (congrArg some (by kernel_rfl))
  f217 := Tryd.func53.trans (congrArg some (by kernel_rfl))
  f218 := Tryd.func61.trans (congrArg some (by kernel_rfl))
  f219 := Tryd.func43.trans (congrArg some (by kernel_rfl))
  f221 := Tryd.func38.trans (congrArg some (by kernel_rfl))
  f224 := Tryd.func55.trans (congrArg some (by kernel_rfl))
  f225 := Tryd.func54.trans (congrArg some (by kernel_rfl))
  f260 := Tryd.func69.trans (congrArg some (by kernel_rfl))
  f266 := Tryd.func66.trans (congrArg some (by kernel_rfl))
  f267 := Tryd.func56.trans (congrArg some (by kernel_rfl))
  f268 := Tryd.func47.trans (congrArg some (by kernel_rfl))
  f314 := Tryd.func67.trans (congrArg some (by kernel_rfl))
  t0 := Tryd.underlying0
  a0 := Tryd.isAgg0
  z0 := Tryd.sizeOf0
  v0 := Tryd.zeroValue0
  t3 := Tryd.underlying3
  a3 := Tryd.isAgg3
  z3 := Tryd.sizeOf3
  v3 := Tryd.zeroValue3
  t4 := Tryd.underlying4
  a4 := Tryd.isAgg4
  z4 := Tryd.sizeOf4
  v4 := Tryd.zeroValue4
  t5 := Tryd.underlying5
  a5 := Tryd.isAgg5
  z5 := Tryd.sizeOf5
  v5 := Tryd.zeroValue5
  t9 := Tryd.underlying9
  a9 := Tryd.isAgg9
  z9 := Tryd.sizeOf9
  v9 := Tryd.zeroValue9
  t21 := Tryd.underlying21
  a21 := Tryd.isAgg21
  z21 := Tryd.sizeOf21
  v21 := Tryd.zeroValue21
  t31 := Tryd.underlying49
  a31 := Tryd.isAgg49
  z31 := Tryd.sizeOf49
  v31 := Tryd.zeroValue49
  t46 := Tryd.underlying80
  a46 := Tryd.isAgg80
  z46 := Tryd.sizeOf80
  v46 := Tryd.zeroValue80
  t51 := Tryd.underlying88
  a51 := Tryd.isAgg88
  z51 := Tryd.sizeOf88
  v51 := Tryd.zeroValue88
  t105 := Tryd.underlying84
  a105 := Tryd.isAgg84
  z105 := Tryd.sizeOf84
  v105 := Tryd.zeroValue84
  t119 := Tryd.underlying91
  a119 := Tryd.isAgg91
  z119 := Tryd.sizeOf91
  t138 := Tryd.underlying93
  a138 := Tryd.isAgg93
  z138 := Tryd.sizeOf93
  v138 := Tryd.zeroValue93
  t139 := Tryd.underlying94
  a139 := Tryd.isAgg94
  z139 := Tryd.sizeOf94
  v139 := Tryd.zeroValue94
  t146 := Tryd.underlying89
  a146 := Tryd.isAgg89
  z146 := Tryd.sizeOf89
  v146 := Tryd.zeroValue89
  g1 := by kernel_rfl
  g3 := by kernel_rfl
  g4 := by kernel_rfl }
open Go.RowKit Go.Lib in
theorem Tryd.strings_Split (s sep : ByteArray) (m : Int) (w : World) (hs : s.size < 4294967281) (hm : w.cell? ⟨0, 0, none⟩ = some (.int .i64 m)) (h1 : 1 ≤ sep.size) :
    Calls Tryd.prog 21 #[.string s, .string sep] w fun e w' =>
      e = .returned (.slice (some ⟨w.heap.size, 0, none⟩) (Lib.countB s sep + 1) (Lib.countB s sep + 1)) ∧ w' = w.alloc (.cells ((Lib.splitB sep 0 (Lib.countB s sep) s).map Value.string).toArray 9) := Any.strings_Split Tryd.lays146 (by kernel_rfl) s sep m w hs hm h1
end Go.Proofs
set_option linter.unusedVariables false
set_option linter.unusedSimpArgs false
set_option maxRecDepth 100000
namespace Go.Proofs.YtlhikhaailhoaaaDoor
open Go Go.Abs Go.RowKit
theorem strings_Contains_ok (s t : List UInt8) (r : Bool) (h : M.strings_Contains s t = some r) : Pure Tryd.prog 13 [.str s, .str t] (.bool r) := by
  refine pure_of_calls ⟨Tryd.f13, Tryd.func13, by rfl, by rfl⟩ fun imm w vals ha => ?_
  obtain ⟨a, b, rfl, h1, h2⟩ := vals2 ha
  unfold M.strings_Contains at h
  split at h
  · rename_i c
    cases h
    cases h1 with
    | str s l hs hb =>
      cases h2 with
      | str t l2 ht _ =>
        have := bytes_of ht; subst this
        refine (Tryd.strings_Contains_one s c w).mono fun e w' he => ?_
        obtain ⟨rfl, rfl⟩ := he
        refine ⟨_, rfl, ?_, rfl⟩
        rw [hs]
        exact .bool _
  · cases h
theorem strings_Join_ok (l : List (List UInt8)) (s : List UInt8) (r : List UInt8) (h : M.strings_Join l s = some r) : Pure Tryd.prog 28 [.sl (l.map cS), .str s] (.str r) := by
  refine pure_of_below ⟨Tryd.f28, Tryd.func28, by rfl, by rfl⟩ fun imm w vals him hgl ha => ?_
  obtain ⟨a, b, rfl, h1, h2⟩ := vals2 ha
  unfold M.strings_Join at h
  split at h
  case isFalse => cases h
  rename_i hlen
  cases h
  cases h2 with
  | str sb _ hs hb =>
    have := bytes_of hs; subst this
    cases l with
    | nil =>
      have hv : ∃ ad c, a = .slice ad 0 c := by
        cases h1 with
        | sl0 => exact ⟨none, 0, rfl⟩
        | sl ec L ad n cap vs hn hc hbd he h r => exact ⟨some ad, cap, by rw [hn]; rfl⟩
      obtain ⟨ad, c, rfl⟩ := hv
      refine (Tryd.strings_Join_none ad c _ w).mono fun e w' he => ?_
      obtain ⟨rfl, rfl⟩ := he
      refine ⟨_, rfl, .str _ _ ?_ (by simp [Lib.join_nil]), Below.refl _ _⟩
      rw [Lib.join_nil]
    | cons x l =>
      cases h1 with
      | sl ec L ad n cap vs hn hc hbd he hh rr =>
        have hec : ec = 1 := (he 0 _ rfl).symm
        subst hec
        have h0 := him _ _ (hh 0 _ rfl 0 _ rfl)
        obtain ⟨bk, o, sp⟩ := ad
        have hlt := World.block_lt_of_cell? _ _ h0
        rw [add_block] at hlt
        have hsp : sp = none := by
          cases sp with
          | none => rfl
          | some q =>
            have : ((⟨bk, o, some q⟩ : Addr).add (0 * 1 + 0)) = ⟨bk, o, some q⟩ := by simp [Addr.add]
            rw [this] at h0
            simp only [World.cell?, Option.isSome_some, if_true] at h0
            split at h0 <;> cases h0
        subst hsp
        obtain ⟨xs, h1, h2, h3⟩ : ∃ xs : List ByteArray, xs.map (·.data.toList) = x :: l ∧ xs.length = n ∧ ∀ (j : Nat) y, xs[j]? = some y → ∃ z, (x :: l)[j]? = some z ∧ (⟨z.toArray⟩ : ByteArray) = y :=
          ⟨(x :: l).map fun b => (⟨b.toArray⟩ : ByteArray), map_bytes _, by rw [hn]; simp, fun j y hy => (by obtain ⟨z, hz, e⟩ := getElem?_map_some hy; exact ⟨z, hz, e.symm⟩)⟩
        rw [← h1] at hlen
        have hcap : xs.length ≤ cap := by rw [h2]; exact hc
        have hN : xs.length ≤ 140737488355328 := by have := hlen.1; rw [List.length_map] at this; exact this
        have hcells : ∀ (j : Nat) y, xs[j]? = some y → w.cell? ⟨bk, o + j, none⟩ = some (.string y) := by
          intro j y hy
          obtain ⟨z, hz, rfl⟩ := h3 j y hy
          have hm : ((x :: l).map cS)[j]? = some (cS z) := by rw [List.getElem?_map, hz]; rfl
          have e1 := him _ _ (hh j _ hm 0 _ rfl)
          have e2 := rr j _ hm 0 (.str z) rfl
          generalize vs j 0 = u at e1 e2
          cases e2 with
          | str sz _ hsz _ =>
            have := bytes_of hsz; subst this
            have : ((⟨bk, o, none⟩ : Addr).add (j * 1 + 0)) = ⟨bk, o + j, none⟩ := by
              unfold Addr.add
              split
              · rename_i h0; have : j = 0 := by omega
                subst this; rfl
              · simp
            rw [this] at e1
            exact e1
        have hjl : (Lib.join (xs.map (·.data.toList)) (⟨s.toArray⟩ : ByteArray).data.toList).length ≤ 140737488355328 := hlen.2
        have key := Tryd.strings_Join bk o cap xs ⟨s.toArray⟩ w hcells hlt hN hcap hjl
        rw [h2] at key
        refine key.mono fun e w' he => ?_
        obtain ⟨rfl, hbel⟩ := he
        rw [h1] at hlen
        refine ⟨_, rfl, .str _ _ (by rw [h1]) (Nat.le_trans hlen.2 (by decide)), hbel⟩
end Go.Proofs.YtlhikhaailhoaaaDoor
set_option linter.unusedVariables false
set_option linter.unusedSimpArgs false
set_option maxRecDepth 100000
namespace Go.Proofs.YtlhikhaailhoaaaDoor
open Go Go.Abs Go.RowKit
theorem strings_Split_ok (s0 t0 : List UInt8) (r : List (List UInt8)) (h : M.strings_Split s0 t0 = some r) : Pure Tryd.prog 21 [.str s0, .str t0] (.sl (r.map cS)) := by
  refine ⟨⟨Tryd.f21, Tryd.func21, by rfl, by rfl⟩, fun imm w vals him hgl ha => ?_⟩
  obtain ⟨a, b, rfl, h1, h2⟩ := vals2 ha
  unfold M.strings_Split at h
  split at h
  case isFalse => cases h
  rename_i hlen
  cases h
  cases h1 with
  | str s l hs hb =>
    cases h2 with
    | str t l2 ht hb2 =>
      obtain ⟨m, hm⟩ := hgl 0 (by simp [gl])
      have z1 : s.size = s0.length := by rw [← hs]; exact Array.length_toList.symm
      have z2 : t.size = t0.length := by rw [← ht]; exact Array.length_toList.symm
      refine (Tryd.strings_Split s t m w (by omega) (him _ _ hm) (by omega)).mono fun e w' he => ?_
      obtain ⟨rfl, rfl⟩ := he
      have hle := Lib.countB_le t (by omega) s.size s (Nat.le_refl _)
      have hL := Lib.splitB_all t (by omega) 0 _ s rfl
      have hD : (Lib.splitB t 0 (Lib.countB s t) s).map (·.data.toList) = Lib.split s0 t0 := by
        rw [Lib.splitB_data, hs, ht]
        show Lib.splitK t0 0 (Lib.count s.data.toList t.data.toList) s0 = Lib.splitK t0 0 (Lib.count s0 t0) s0
        rw [hs, ht]
      generalize Lib.splitB t 0 (Lib.countB s t) s = ps at hL hD ⊢
      have hlt : ∀ x v, imm x = some v → x.block < w.heap.size := fun x v hx => World.block_lt_of_cell? _ _ (him x v hx)
      refine ⟨fun x => if x.block = w.heap.size then (w.alloc (.cells (ps.map Value.string).toArray 9)).cell? x else imm x, _, rfl, ?_, fun x v hx => ?_, fun x v hx => ?_, Below.alloc (Below.refl _ _) (Nat.le_refl _) _, fun x v hx => ?_⟩
      · refine .sl 1 _ ⟨w.heap.size, 0, none⟩ _ _ (fun i _ => Value.string (ps.getD i default)) ?_ (Nat.le_refl _) (by omega) ?_ ?_ ?_
        · rw [← hD]; simpa using hL.symm
        · intro i e he
          obtain ⟨z, _, rfl⟩ := getElem?_map_some he
          rfl
        · intro i e he j x hx
          obtain ⟨z, hz, rfl⟩ := getElem?_map_some he
          rw [← hD] at hz
          obtain ⟨p, hp, rfl⟩ := getElem?_map_some hz
          have hj : j = 0 := by
            rcases j with _ | j
            · rfl
            · simp [cS] at hx
          subst hj
          have hadd : ((⟨w.heap.size, 0, none⟩ : Addr).add (i * 1 + 0)) = ⟨w.heap.size, i, none⟩ := by
            unfold Addr.add
            split
            · rename_i h0; have : i = 0 := by omega
              subst this; rfl
            · simp
          rw [hadd]
          simp only [if_true]
          rw [World.cell?_alloc_new]
          simp [hp, List.getD_eq_getElem?_getD]
        · intro i e he j x hx
          obtain ⟨z, hz, rfl⟩ := getElem?_map_some he
          have hzl : z.length ≤ s0.length := splitK_short t0 _ s0 z (List.mem_of_getElem? hz)
          rw [← hD] at hz
          obtain ⟨p, hp, rfl⟩ := getElem?_map_some hz
          have hx' : x = .str p.data.toList := by
            rcases j with _ | j
            · simpa [cS] using hx.symm
            · simp [cS] at hx
          subst hx'
          have : ps.getD i default = p := by simp [List.getD_eq_getElem?_getD, hp]
          rw [this]
          exact .str _ _ rfl (by omega)
      · have := hlt x v hx
        show (if x.block = w.heap.size then _ else imm x) = some v
        rw [if_neg (by omega)]; exact hx
      · dsimp only at hx
        split at hx
        · exact hx
        · rw [World.cell?_alloc_lt _ _ _ (hlt x v hx)]; exact him x v hx
      · dsimp only at hx
        split at hx
        · rename_i hb; exact .inr (by omega)
        · exact .inl hx
theorem strings_Cut_ok (s0 t0 : List UInt8) (r : List UInt8 × List UInt8 × Bool) (h : M.strings_Cut s0 t0 = some r) : Pure Tryd.prog 20 [.str s0, .str t0] (.tup [.str r.1, .str r.2.1, .bool r.2.2]) := by
  refine pure_of_below ⟨Tryd.f20, Tryd.func20, by rfl, by rfl⟩ fun imm w vals him hgl ha => ?_
  obtain ⟨a, b, rfl, h1, h2⟩ := vals2 ha
  unfold M.strings_Cut at h
  split at h
  case isFalse => cases h
  rename_i hlen
  cases h
  cases h1 with
  | str s l hs hb =>
    cases h2 with
    | str t l2 ht hb2 =>
      obtain ⟨m, hm⟩ := hgl 0 (by simp [gl])
      have z1 : s.size = s0.length := by rw [← hs]; exact Array.length_toList.symm
      refine (Tryd.strings_Cut s t m w (by omega) (him _ _ hm)).mono fun e w' he => ?_
      obtain ⟨rfl, n, rfl⟩ := he
      have hc : (Lib.cut s0 t0).1.length ≤ s0.length ∧ (Lib.cut s0 t0).2.1.length ≤ s0.length := by
        unfold Lib.cut
        split
        · refine ⟨?_, ?_⟩
          · show (s0.take _).length ≤ _; rw [List.length_take]; omega
          · show (s0.drop _).length ≤ _; rw [List.length_drop]; omega
        · exact ⟨Nat.le_refl _, Nat.zero_le _⟩
      rw [hs, ht]
      refine ⟨_, rfl, .tup _ _ (by rfl) fun i x hx => ?_, ⟨rfl, rfl, rfl, Nat.le_refl _, fun _ _ => rfl⟩⟩
      match i, hx with
      | 0, hx => cases hx; exact .str _ _ rfl (by omega)
      | 1, hx => cases hx; exact .str _ _ rfl (by omega)
      | 2, hx => cases hx; exact .bool _
      | (n + 3), hx => simp at hx
end Go.Proofs.YtlhikhaailhoaaaDoor
set_option linter.unusedVariables false
set_option linter.unusedSimpArgs false
set_option maxRecDepth 100000
set_option maxHeartbeats 1000000
namespace Go.Proofs.YtlhikhaailhoaaaDoor
open Go Go.Abs
theorem ident_of_ok (c1 : UInt8) (r : Int) (h : M.ident_of c1 = some r) : Pure Tryd.prog 64 [.int .u8 (c1.toNat : Int)] (.int .i64 r) := by
  rw [M.ident_of] at h
  refine pure_of_body Tryd.func64 (by rfl) (by rfl) (by simp) (by simp) (by simp) ?_
  refine cut 30 0 [(0, .int .u8 (c1.toNat : Int))] [] ?_ ?_
  · refine st ?_
    simp
  refine awp_seq ?_
  refine awp_block ?_
  refine cut 30 0 [(0, .int .u8 (c1.toNat : Int)), (3, .bool ((leI 97 (c1.toNat : Int)) && (leI (c1.toNat : Int) 122)))] [] ?_ ?_
  · rcases tf (leI 97 (c1.toNat : Int)) with g2 | g2
    · have c3 := leT g2
      refine st ?_
      simp [g2]
    · have c4 := leF g2
      refine st ?_
      simp [g2]
  rcases sp h with ⟨g5, h⟩ | ⟨g5, h⟩
  · obtain ⟨g6, g7⟩ := andT g5
    have c8 := leT g6
    have c9 := leT g7
    refine condT rfl g5 ?_
    refine cut 30 0 [(2, .int .i64 1)] [] ?_ ?_
    · refine st ?_
      simp
    refine awp_ret ?_
    refine ret_blk ?_
    refine ret_seq ?_
    obtain rfl := Option.some.inj h
    simp
  · refine condF rfl g5 ?_
    refine cut 30 0 [(0, .int .u8 (c1.toNat : Int)), (10, .bool ((leI 65 (c1.toNat : Int)) && (leI (c1.toNat : Int) 90)))] [] ?_ ?_
    · rcases tf (leI 65 (c1.toNat : Int)) with g10 | g10
      · have c11 := leT g10
        refine st ?_
        simp [g10]
      · have c12 := leF g10
        refine st ?_
        simp [g10]
    rcases sp h with ⟨g13, h⟩ | ⟨g13, h⟩
    · obtain ⟨g14, g15⟩ := andT g13
      have c16 := leT g14
      have c17 := leT g15
      refine condT rfl g13 ?_
      refine cut 30 0 [(2, .int .i64 2)] [] ?_ ?_
      · refine st ?_
        simp
      refine awp_ret ?_
      refine ret_blk ?_
      refine ret_seq ?_
      obtain rfl := Option.some.inj h
      simp
    · refine condF rfl g13 ?_
      refine cut 30 0 [(0, .int .u8 (c1.toNat : Int)), (17, .bool ((leI 48 (c1.toNat : Int)) && (leI (c1.toNat : Int) 57)))] [] ?_ ?_
      · rcases tf (leI 48 (c1.toNat : Int)) with g18 | g18
        · have c19 := leT g18
          refine st ?_
          simp [g18]
        · have c20 := leF g18
          refine st ?_
          simp [g18]
      rcases sp h with ⟨g21, h⟩ | ⟨g21, h⟩
      · obtain ⟨g22, g23⟩ := andT g21
        have c24 := leT g22
        have c25 := leT g23
        refine condT rfl g21 ?_
        refine cut 30 0 [(2, .int .i64 3)] [] ?_ ?_
        · refine st ?_
          simp
        refine awp_ret ?_
        refine ret_blk ?_
        refine ret_seq ?_
        obtain rfl := Option.some.inj h
        simp
      · refine condF rfl g21 ?_
        refine cut 30 0 [(0, .int .u8 (c1.toNat : Int)), (24, .bool (eqI (c1.toNat : Int) 95))] [] ?_ ?_
        · refine st ?_
          simp
        rcases sp h with ⟨g26, h⟩ | ⟨g26, h⟩
        · have c27 := eqT g26
          refine condT rfl g26 ?_
          refine cut 30 0 [(2, .int .i64 4)] [] ?_ ?_
          · refine st ?_
            simp
          refine awp_ret ?_
          refine ret_blk ?_
          refine ret_seq ?_
          obtain rfl := Option.some.inj h
          simp
        · have c28 := eqF g26
          refine condF rfl g26 ?_
          refine cut 30 0 [(27, .bool (eqI (c1.toNat : Int) 46))] [] ?_ ?_
          · refine st ?_
            simp
          rcases sp h with ⟨g29, h⟩ | ⟨g29, h⟩
          · have c30 := eqT g29
            refine condT rfl g29 ?_
            refine cut 30 0 [(2, .int .i64 5)] [] ?_ ?_
            · refine st ?_
              simp
            refine awp_ret ?_
            refine ret_blk ?_
            refine ret_seq ?_
            obtain rfl := Option.some.inj h
            simp
          · have c31 := eqF g29
            refine condF rfl g29 ?_
            refine awp_skip ?_
            refine blk_n ?_
            refine seq_eq ?_
            refine cut 30 0 [(2, .int .i64 0)] [] ?_ ?_
            · refine st ?_
              simp
            refine awp_ret ?_
            obtain rfl := Option.some.inj h
            simp
end Go.Proofs.YtlhikhaailhoaaaDoor
set_option linter.unusedVariables false
set_option linter.unusedSimpArgs false
set_option maxRecDepth 100000
set_option maxHeartbeats 1000000
namespace Go.Proofs.YtlhikhaailhoaaaDoor
open Go Go.Abs
theorem ident_name_ok (fuel : Nat) (s1 : (List UInt8)) (first2 : Int) (r : Bool) (h : M.ident_name fuel s1 first2 = some r) : Pure Tryd.prog 51 [.str s1, .int .i64 first2] (.bool r) := by
  rw [M.ident_name] at h
  refine pure_of_body Tryd.func51 (by rfl) (by rfl) (by simp) (by simp) (by simp) ?_
  refine cut 38 0 [(0, .str s1), (1, .int .i64 first2)] [] ?_ ?_
  · refine st ?_
    simp
  refine awp_seq ?_
  obtain ⟨b13, q14, h⟩ := bs h
  refine cut 38 0 [(0, .str s1), (21, .bool b13)] [] ?_ ?_
  · rcases sp q14 with ⟨g3, q14⟩ | ⟨g3, q14⟩
    · obtain rfl := Option.some.inj q14
      refine st ?_
      simp [g3]
    · rcases sp q14 with ⟨g4, q14⟩ | ⟨g4, q14⟩
      · have c5 := ltT g4
        refine factS 0 rfl fun f6 => ?_
        obtain rfl := Option.some.inj q14
        refine st ?_
        simp [g3, g4]
      · have c7 := ltF g4
        refine factS 0 rfl fun f8 => ?_
        obtain ⟨c9, q10, q14⟩ := bs q14
        obtain ⟨v11, q12, q14⟩ := bs q14
        obtain rfl := Option.some.inj q14
        refine st ?_
        simp [g3, g4, q10]
        have r46 := ident_of_ok c9 v11 q12
        try simp [g3, g4, q10] at r46
        refine callPure r46 (by simp) rfl ?_
        simp [g3, g4, q10]
  rcases sp h with ⟨g15, h⟩ | ⟨g15, h⟩
  · refine condT rfl g15 ?_
    refine cut 38 0 [(4, .bool false)] [] ?_ ?_
    · refine st ?_
      simp
    refine awp_ret ?_
    refine ret_seq ?_
    obtain rfl := Option.some.inj h
    simp
  · refine condF rfl g15 ?_
    refine awp_skip ?_
    refine seq_eq ?_
    refine awp_seq ?_
    obtain ⟨l16, q17, h⟩ := bs h
    obtain ⟨q18, q19⟩ := bytesC_ok q17
    refine cut 38 0 [(23, .sl (l16.map cU)), (24, .int .i64 (l16.length : Int)), (25, .int .i64 0)] [] ?_ ?_
    · refine st ?_
      simp [q18, q19]
    refine awp_block ?_
    obtain ⟨o22, l23, h⟩ := bs h
    refine awp_inv (fun p : Nat × Nat => mkS 38 0 [(23, .sl (l16.map cU)), (24, .int .i64 (l16.length : Int)), (25, .int .i64 ((p.2 : Nat) : Int))] []) (fun p => M.ident_name_l1 l16 p.1 p.2 = some o22) (fun p => p.1) (fuel, 0) l23 (le_mkS (by simp)) ?_
    rintro ⟨k24, i20⟩ l23
    dsimp only at l23 ⊢
    cases k24 with
    | zero =>
      rw [M.ident_name_l1] at l23; cases l23
    | succ k25 =>
      rw [M.ident_name_l1] at l23
      refine cut 38 0 [(23, .sl (l16.map cU)), (24, .int .i64 (l16.length : Int)), (25, .int .i64 ((i20 : Nat) : Int)), (26, .bool (ltI ((i20 : Nat) : Int) (l16.length : Int)))] [] ?_ ?_
      · refine st ?_
        simp
      refine awp_seq ?_
      rcases sp l23 with ⟨g26, l23⟩ | ⟨g26, l23⟩
      · have c27 := ltT g26
        refine condT rfl g26 ?_
        refine factL 23 rfl fun f28 => ?_
        rw [List.length_map] at f28
        refine awp_skip ?_
        refine seq_eq ?_
        refine awp_seq ?_
        refine awp_block ?_
        obtain ⟨x29, q30, l23⟩ := bs l23
        refine cut 38 0 [(6, .int .u8 (x29.toNat : Int)), (23, .sl (l16.map cU)), (24, .int .i64 (l16.length : Int)), (25, .int .i64 ((i20 : Nat) : Int))] [] ?_ ?_
        · refine st ?_
          simp [q30]
        obtain ⟨v31, q32, l23⟩ := bs l23
        refine cut 38 0 [(7, .int .i64 v31), (23, .sl (l16.map cU)), (24, .int .i64 (l16.length : Int)), (25, .int .i64 ((i20 : Nat) : Int))] [] ?_ ?_
        · refine st ?_
          simp
          have r42 := ident_of_ok x29 v31 q32
          try simp [] at r42
          refine callPure r42 (by simp) rfl ?_
          simp
        refine cut 38 0 [(23, .sl (l16.map cU)), (24, .int .i64 (l16.length : Int)), (25, .int .i64 ((i20 : Nat) : Int)), (36, .bool ((eqI v31 0) || (eqI v31 5)))] [] ?_ ?_
        · rcases tf (eqI v31 0) with g33 | g33
          · have c34 := eqT g33
            refine st ?_
            simp [g33]
          · have c35 := eqF g33
            refine st ?_
            simp [g33]
        rcases sp l23 with ⟨g36, l23⟩ | ⟨g36, l23⟩
        · refine condT rfl g36 ?_
          refine cut 38 0 [(4, .bool false)] [] ?_ ?_
          · refine st ?_
            simp
          refine awp_ret ?_
          refine ret_blk ?_
          refine ret_seq ?_
          replace h := retL l23 h
          refine ret_seq ?_
          refine ret_blk ?_
          refine ret_seq ?_
          obtain rfl := Option.some.inj h
          simp
        · obtain ⟨g37, g38⟩ := orF g36
          have c39 := eqF g37
          have c40 := eqF g38
          refine condF rfl g36 ?_
          refine awp_skip ?_
          refine blk_n ?_
          refine seq_eq ?_
          have q41 : Rng .i64 (((i20 : Nat) : Int) + 1) := by simp only [Rng, inR]; omega
          try simp at q41
          refine last 38 0 [(23, .sl (l16.map cU)), (24, .int .i64 (l16.length : Int)), (25, .int .i64 ((i20 + 1 : Nat) : Int))] [] ?_ fun zz hs => ?_
          · refine st ?_
            simp [q41]
          exact ⟨(k25, i20 + 1), hs, l23, by simp⟩
      · have c43 := ltF g26
        refine condF rfl g26 ?_
        refine factL 23 rfl fun f44 => ?_
        rw [List.length_map] at f44
        refine awp_exit ?_
        refine exit_seq ?_
        rcases o22 with o22 | o21
        · cases l23
        have q45 := Sum.inr.inj (Option.some.inj l23)
        replace h := elimR h
        refine exit_seq ?_
        refine exit_blk ?_
        refine seq_le (t := mkS 38 0 [] []) ?_ (le_mkS (by simp []))
        refine cut 38 0 [(4, .bool true)] [] ?_ ?_
        · refine st ?_
          simp
        refine awp_ret ?_
        obtain rfl := Option.some.inj h
        simp
end Go.Proofs.YtlhikhaailhoaaaDoor
set_option linter.unusedVariables false
set_option linter.unusedSimpArgs false
set_option maxRecDepth 100000
set_option maxHeartbeats 1000000
namespace Go.Proofs.YtlhikhaailhoaaaDoor
open Go Go.Abs
theorem ident_IsUpper_ok (fuel : Nat) (s1 : (List UInt8)) (r : Bool) (h : M.ident_IsUpper fuel s1 = some r) : Pure Tryd.prog 41 [.str s1] (.bool r) := by
  rw [M.ident_IsUpper] at h
  refine pure_of_body Tryd.func41 (by rfl) (by rfl) (by simp) (by simp) (by simp) ?_
  refine cut 5 0 [(0, .str s1)] [] ?_ ?_
  · refine st ?_
    simp
  obtain ⟨v2, q3, h⟩ := bs h
  refine cut 5 0 [(2, .bool v2)] [] ?_ ?_
  · refine st ?_
    simp
    have r4 := ident_name_ok fuel s1 2 v2 q3
    try simp [] at r4
    refine callPure r4 (by simp) rfl ?_
    simp
  refine awp_ret ?_
  obtain rfl := Option.some.inj h
  simp
end Go.Proofs.YtlhikhaailhoaaaDoor
set_option linter.unusedVariables false
set_option linter.unusedSimpArgs false
set_option maxRecDepth 100000
set_option maxHeartbeats 1000000
namespace Go.Proofs.YtlhikhaailhoaaaDoor
open Go Go.Abs
theorem explain_valid_ok (fuel : Nat) (s1 : Api.Step) (r : Bool) (h : M.explain_valid fuel s1 = some r) : Pure Tryd.prog 25 [.agg [.str s1.Unit, .int .i64 s1.Reason.Op, .str s1.Reason.Unit, .bool s1.Compiled, .int .i64 s1.Code, .bool s1.Same]] (.bool r) := by
  rw [M.explain_valid] at h
  refine pure_of_body Tryd.func25 (by rfl) (by rfl) (by simp) (by simp) (by simp) ?_
  refine cut 39 0 [(1, .mptr 0 0)] [[.str s1.Unit, .int .i64 s1.Reason.Op, .str s1.Reason.Unit, .bool s1.Compiled, .int .i64 s1.Code, .bool s1.Same]] ?_ ?_
  · refine st ?_
    simp
  refine cut 39 0 [(1, .mptr 0 0), (3, .mptr 1 0)] [[.str s1.Unit, .int .i64 s1.Reason.Op, .str s1.Reason.Unit, .bool s1.Compiled, .int .i64 s1.Code, .bool s1.Same], [.int .i64 s1.Reason.Op, .str s1.Reason.Unit]] ?_ ?_
  · refine st ?_
    simp
  refine awp_seq ?_
  obtain ⟨b16, q17, h⟩ := bs h
  refine cut 39 0 [(3, .mptr 1 0), (29, .bool b16)] [[.str s1.Unit, .int .i64 s1.Reason.Op, .str s1.Reason.Unit, .bool s1.Compiled, .int .i64 s1.Code, .bool s1.Same], [.int .i64 s1.Reason.Op, .str s1.Reason.Unit]] ?_ ?_
  · obtain ⟨v2, q3, q17⟩ := bs q17
    rcases sp q17 with ⟨g4, q17⟩ | ⟨g4, q17⟩
    · have g5 := notT g4
      obtain rfl := Option.some.inj q17
      refine st ?_
      simp [g4]
      have r25 := ident_IsUpper_ok fuel s1.Unit v2 q3
      try simp [g4] at r25
      refine callPure r25 (by simp) rfl ?_
      simp [g4]
    · have g6 := notF g4
      rcases sp q17 with ⟨g7, q17⟩ | ⟨g7, q17⟩
      · have c8 := ltT g7
        obtain rfl := Option.some.inj q17
        refine st ?_
        simp [g4, g7]
        have r26 := ident_IsUpper_ok fuel s1.Unit v2 q3
        try simp [g4, g7] at r26
        refine callPure r26 (by simp) rfl ?_
        simp [g4, g7]
      · have c9 := ltF g7
        rcases sp q17 with ⟨g10, q17⟩ | ⟨g10, q17⟩
        · have c11 := ltT g10
          obtain rfl := Option.some.inj q17
          refine st ?_
          simp [g4, g7, g10]
          have r27 := ident_IsUpper_ok fuel s1.Unit v2 q3
          try simp [g4, g7, g10] at r27
          refine callPure r27 (by simp) rfl ?_
          simp [g4, g7, g10]
        · have c12 := ltF g10
          rcases sp q17 with ⟨g13, q17⟩ | ⟨g13, q17⟩
          · have c14 := ltT g13
            obtain rfl := Option.some.inj q17
            refine st ?_
            simp [g4, g7, g10, g13]
            have r28 := ident_IsUpper_ok fuel s1.Unit v2 q3
            try simp [g4, g7, g10, g13] at r28
            refine callPure r28 (by simp) rfl ?_
            simp [g4, g7, g10, g13]
          · have c15 := ltF g13
            obtain rfl := Option.some.inj q17
            refine st ?_
            simp [g4, g7, g10, g13]
            have r29 := ident_IsUpper_ok fuel s1.Unit v2 q3
            try simp [g4, g7, g10, g13] at r29
            refine callPure r29 (by simp) rfl ?_
            simp [g4, g7, g10, g13]
  rcases sp h with ⟨g18, h⟩ | ⟨g18, h⟩
  · refine condT rfl g18 ?_
    refine cut 39 0 [(2, .bool false)] [[.str s1.Unit, .int .i64 s1.Reason.Op, .str s1.Reason.Unit, .bool s1.Compiled, .int .i64 s1.Code, .bool s1.Same], [.int .i64 s1.Reason.Op, .str s1.Reason.Unit]] ?_ ?_
    · refine st ?_
      simp
    refine awp_ret ?_
    refine ret_seq ?_
    obtain rfl := Option.some.inj h
    simp
  · refine condF rfl g18 ?_
    refine awp_skip ?_
    refine seq_eq ?_
    refine awp_seq ?_
    refine cut 39 0 [(3, .mptr 1 0), (32, .bool (eqI s1.Reason.Op 4))] [[.str s1.Unit, .int .i64 s1.Reason.Op, .str s1.Reason.Unit, .bool s1.Compiled, .int .i64 s1.Code, .bool s1.Same], [.int .i64 s1.Reason.Op, .str s1.Reason.Unit]] ?_ ?_
    · refine st ?_
      simp
    rcases sp h with ⟨g19, h⟩ | ⟨g19, h⟩
    · have c20 := eqT g19
      refine condT rfl g19 ?_
      obtain ⟨v21, q22, h⟩ := bs h
      refine cut 39 0 [(2, .bool v21)] [[.str s1.Unit, .int .i64 s1.Reason.Op, .str s1.Reason.Unit, .bool s1.Compiled, .int .i64 s1.Code, .bool s1.Same], [.int .i64 s1.Reason.Op, .str s1.Reason.Unit]] ?_ ?_
      · refine st ?_
        simp
        have r23 := ident_IsUpper_ok fuel s1.Reason.Unit v21 q22
        try simp [] at r23
        refine callPure r23 (by simp) rfl ?_
        simp
      refine awp_ret ?_
      refine ret_seq ?_
      obtain rfl := Option.some.inj h
      simp
    · have c24 := eqF g19
      refine condF rfl g19 ?_
      refine awp_skip ?_
      refine seq_eq ?_
      refine cut 39 0 [(2, .bool (eqS s1.Reason.Unit ([] : List UInt8)))] [[.str s1.Unit, .int .i64 s1.Reason.Op, .str s1.Reason.Unit, .bool s1.Compiled, .int .i64 s1.Code, .bool s1.Same], [.int .i64 s1.Reason.Op, .str s1.Reason.Unit]] ?_ ?_
      · refine st ?_
        simp
      refine awp_ret ?_
      obtain rfl := Option.some.inj h
      simp
end Go.Proofs.YtlhikhaailhoaaaDoor
set_option linter.unusedVariables false
set_option linter.unusedSimpArgs false
set_option maxRecDepth 100000
set_option maxHeartbeats 1000000
namespace Go.Proofs.YtlhikhaailhoaaaDoor
open Go Go.Abs
theorem explain_reason_ok (r1 : Api.Reason) (r : (List UInt8)) (h : M.explain_reason r1 = some r) : Pure Tryd.prog 26 [.agg [.int .i64 r1.Op, .str r1.Unit]] (.str r) := by
  rw [M.explain_reason] at h
  refine pure_of_body Tryd.func26 (by rfl) (by rfl) (by simp) (by simp) (by simp) ?_
  refine cut 17 0 [(1, .mptr 0 0)] [[.int .i64 r1.Op, .str r1.Unit]] ?_ ?_
  · refine st ?_
    simp
  refine awp_seq ?_
  refine cut 17 0 [(1, .mptr 0 0), (4, .int .i64 r1.Op)] [[.int .i64 r1.Op, .str r1.Unit]] ?_ ?_
  · refine st ?_
    simp
  refine awp_block ?_
  refine cut 17 0 [(1, .mptr 0 0), (4, .int .i64 r1.Op), (5, .bool (eqI r1.Op 1))] [[.int .i64 r1.Op, .str r1.Unit]] ?_ ?_
  · refine st ?_
    simp
  rcases sp h with ⟨g2, h⟩ | ⟨g2, h⟩
  · have c3 := eqT g2
    refine condT rfl g2 ?_
    refine cut 17 0 [(2, .str [110, 101, 118, 101, 114, 32, 98, 117, 105, 108, 116])] [[.int .i64 r1.Op, .str r1.Unit]] ?_ ?_
    · refine st ?_
      simp
    refine awp_ret ?_
    refine ret_blk ?_
    refine ret_seq ?_
    obtain rfl := Option.some.inj h
    simp
  · have c4 := eqF g2
    refine condF rfl g2 ?_
    refine cut 17 0 [(1, .mptr 0 0), (4, .int .i64 r1.Op), (7, .bool (eqI r1.Op 2))] [[.int .i64 r1.Op, .str r1.Unit]] ?_ ?_
    · refine st ?_
      simp
    rcases sp h with ⟨g5, h⟩ | ⟨g5, h⟩
    · have c6 := eqT g5
      refine condT rfl g5 ?_
      refine cut 17 0 [(2, .str [110, 101, 119, 32, 115, 111, 117, 114, 99, 101])] [[.int .i64 r1.Op, .str r1.Unit]] ?_ ?_
      · refine st ?_
        simp
      refine awp_ret ?_
      refine ret_blk ?_
      refine ret_seq ?_
      obtain rfl := Option.some.inj h
      simp
    · have c7 := eqF g5
      refine condF rfl g5 ?_
      refine cut 17 0 [(1, .mptr 0 0), (4, .int .i64 r1.Op), (9, .bool (eqI r1.Op 3))] [[.int .i64 r1.Op, .str r1.Unit]] ?_ ?_
      · refine st ?_
        simp
      rcases sp h with ⟨g8, h⟩ | ⟨g8, h⟩
      · have c9 := eqT g8
        refine condT rfl g8 ?_
        refine cut 17 0 [(2, .str [111, 116, 104, 101, 114, 32, 105, 109, 112, 111, 114, 116, 115])] [[.int .i64 r1.Op, .str r1.Unit]] ?_ ?_
        · refine st ?_
          simp
        refine awp_ret ?_
        refine ret_blk ?_
        refine ret_seq ?_
        obtain rfl := Option.some.inj h
        simp
      · have c10 := eqF g8
        refine condF rfl g8 ?_
        refine cut 17 0 [(1, .mptr 0 0), (11, .bool (eqI r1.Op 4))] [[.int .i64 r1.Op, .str r1.Unit]] ?_ ?_
        · refine st ?_
          simp
        rcases sp h with ⟨g11, h⟩ | ⟨g11, h⟩
        · have c12 := eqT g11
          refine condT rfl g11 ?_
          obtain ⟨s13, q14, h⟩ := bs h
          obtain ⟨q15, q16⟩ := cat_ok q14
          try simp at q15
          try simp at q16
          obtain ⟨s17, q18, h⟩ := bs h
          obtain ⟨q19, q20⟩ := cat_ok q18
          try simp at q19
          try simp at q20
          refine cut 17 0 [(2, .str s17)] [[.int .i64 r1.Op, .str r1.Unit]] ?_ ?_
          · refine st ?_
            simp [q15, q16, q19, q20]
          refine awp_ret ?_
          refine ret_blk ?_
          refine ret_seq ?_
          obtain rfl := Option.some.inj h
          simp
        · have c21 := eqF g11
          refine condF rfl g11 ?_
          refine awp_skip ?_
          refine blk_n ?_
          refine seq_eq ?_
          refine cut 17 0 [(2, .str [110, 111, 116, 104, 105, 110, 103, 32, 104, 97, 115, 32, 99, 104, 97, 110, 103, 101, 100])] [[.int .i64 r1.Op, .str r1.Unit]] ?_ ?_
          · refine st ?_
            simp
          refine awp_ret ?_
          obtain rfl := Option.some.inj h
          simp
end Go.Proofs.YtlhikhaailhoaaaDoor
set_option linter.unusedVariables false
set_option linter.unusedSimpArgs false
set_option maxRecDepth 100000
set_option maxHeartbeats 1000000
namespace Go.Proofs.YtlhikhaailhoaaaDoor
open Go Go.Abs
theorem explain_either_ok (is1 : Bool) (yes2 : (List UInt8)) (no3 : (List UInt8)) (r : (List UInt8)) (h : M.explain_either is1 yes2 no3 = some r) : Pure Tryd.prog 27 [.bool is1, .str yes2, .str no3] (.str r) := by
  rw [M.explain_either] at h
  refine pure_of_body Tryd.func27 (by rfl) (by rfl) (by simp) (by simp) (by simp) ?_
  refine cut 10 0 [(0, .bool is1), (1, .str yes2), (2, .str no3)] [] ?_ ?_
  · refine st ?_
    simp
  refine awp_seq ?_
  refine cut 10 0 [(1, .str yes2), (2, .str no3), (7, .bool is1)] [] ?_ ?_
  · refine st ?_
    simp
  rcases sp h with ⟨g4, h⟩ | ⟨g4, h⟩
  · refine condT rfl g4 ?_
    refine cut 10 0 [(6, .str yes2)] [] ?_ ?_
    · refine st ?_
      simp
    refine awp_ret ?_
    refine ret_seq ?_
    obtain rfl := Option.some.inj h
    simp
  · refine condF rfl g4 ?_
    refine awp_skip ?_
    refine seq_eq ?_
    refine cut 10 0 [(6, .str no3)] [] ?_ ?_
    · refine st ?_
      simp
    refine awp_ret ?_
    obtain rfl := Option.some.inj h
    simp
end Go.Proofs.YtlhikhaailhoaaaDoor
set_option linter.unusedVariables false
set_option linter.unusedSimpArgs false
set_option maxRecDepth 100000
set_option maxHeartbeats 1000000
namespace Go.Proofs.YtlhikhaailhoaaaDoor
open Go Go.Abs
theorem explain_Error_ok (e1 : Int) (r : (List UInt8)) (h : M.explain_Error e1 = some r) : Pure Tryd.prog 9 [.int .i64 e1] (.str r) := by
  rw [M.explain_Error] at h
  refine pure_of_body Tryd.func9 (by rfl) (by rfl) (by simp) (by simp) (by simp) ?_
  refine cut 66 0 [(0, .int .i64 e1)] [] ?_ ?_
  · refine st ?_
    simp
  refine awp_seq ?_
  refine cut 66 0 [(3, .int .i64 e1)] [] ?_ ?_
  · refine st ?_
    simp
  refine awp_block ?_
  refine cut 66 0 [(3, .int .i64 e1), (4, .bool (eqI e1 0))] [] ?_ ?_
  · refine st ?_
    simp
  rcases sp h with ⟨g2, h⟩ | ⟨g2, h⟩
  · have c3 := eqT g2
    refine condT rfl g2 ?_
    refine cut 66 0 [(2, .str [110, 111, 32, 101, 114, 114, 111, 114])] [] ?_ ?_
    · refine st ?_
      simp
    refine awp_ret ?_
    refine ret_blk ?_
    refine ret_seq ?_
    obtain rfl := Option.some.inj h
    simp
  · have c4 := eqF g2
    refine condF rfl g2 ?_
    refine cut 66 0 [(3, .int .i64 e1), (6, .bool (eqI e1 1))] [] ?_ ?_
    · refine st ?_
      simp
    rcases sp h with ⟨g5, h⟩ | ⟨g5, h⟩
    · have c6 := eqT g5
      refine condT rfl g5 ?_
      refine cut 66 0 [(2, .str [97, 110, 32, 97, 114, 103, 117, 109, 101, 110, 116, 32, 105, 115, 32, 110, 111, 116, 32, 118, 97, 108, 105, 100])] [] ?_ ?_
      · refine st ?_
        simp
      refine awp_ret ?_
      refine ret_blk ?_
      refine ret_seq ?_
      obtain rfl := Option.some.inj h
      simp
    · have c7 := eqF g5
      refine condF rfl g5 ?_
      refine cut 66 0 [(3, .int .i64 e1), (8, .bool (eqI e1 2))] [] ?_ ?_
      · refine st ?_
        simp
      rcases sp h with ⟨g8, h⟩ | ⟨g8, h⟩
      · have c9 := eqT g8
        refine condT rfl g8 ?_
        refine cut 66 0 [(2, .str [97, 32, 110, 117, 109, 98, 101, 114, 32, 105, 115, 32, 111, 117, 116, 32, 111, 102, 32, 114, 97, 110, 103, 101])] [] ?_ ?_
        · refine st ?_
          simp
        refine awp_ret ?_
        refine ret_blk ?_
        refine ret_seq ?_
        obtain rfl := Option.some.inj h
        simp
      · have c10 := eqF g8
        refine condF rfl g8 ?_
        refine cut 66 0 [(3, .int .i64 e1), (10, .bool (eqI e1 3))] [] ?_ ?_
        · refine st ?_
          simp
        rcases sp h with ⟨g11, h⟩ | ⟨g11, h⟩
        · have c12 := eqT g11
          refine condT rfl g11 ?_
          refine cut 66 0 [(2, .str [97, 32, 116, 101, 120, 116, 32, 105, 115, 32, 109, 97, 108, 102, 111, 114, 109, 101, 100])] [] ?_ ?_
          · refine st ?_
            simp
          refine awp_ret ?_
          refine ret_blk ?_
          refine ret_seq ?_
          obtain rfl := Option.some.inj h
          simp
        · have c13 := eqF g11
          refine condF rfl g11 ?_
          refine cut 66 0 [(3, .int .i64 e1), (12, .bool (eqI e1 4))] [] ?_ ?_
          · refine st ?_
            simp
          rcases sp h with ⟨g14, h⟩ | ⟨g14, h⟩
          · have c15 := eqT g14
            refine condT rfl g14 ?_
            refine cut 66 0 [(2, .str [97, 32, 116, 101, 120, 116, 32, 101, 110, 100, 115, 32, 116, 111, 111, 32, 101, 97, 114, 108, 121])] [] ?_ ?_
            · refine st ?_
              simp
            refine awp_ret ?_
            refine ret_blk ?_
            refine ret_seq ?_
            obtain rfl := Option.some.inj h
            simp
          · have c16 := eqF g14
            refine condF rfl g14 ?_
            refine cut 66 0 [(3, .int .i64 e1), (14, .bool (eqI e1 5))] [] ?_ ?_
            · refine st ?_
              simp
            rcases sp h with ⟨g17, h⟩ | ⟨g17, h⟩
            · have c18 := eqT g17
              refine condT rfl g17 ?_
              refine cut 66 0 [(2, .str [116, 111, 111, 32, 109, 97, 110, 121, 44, 32, 111, 114, 32, 116, 111, 111, 32, 108, 111, 110, 103])] [] ?_ ?_
              · refine st ?_
                simp
              refine awp_ret ?_
              refine ret_blk ?_
              refine ret_seq ?_
              obtain rfl := Option.some.inj h
              simp
            · have c19 := eqF g17
              refine condF rfl g17 ?_
              refine cut 66 0 [(3, .int .i64 e1), (16, .bool (eqI e1 6))] [] ?_ ?_
              · refine st ?_
                simp
              rcases sp h with ⟨g20, h⟩ | ⟨g20, h⟩
              · have c21 := eqT g20
                refine condT rfl g20 ?_
                refine cut 66 0 [(2, .str [97, 32, 114, 101, 115, 117, 108, 116, 32, 101, 120, 99, 101, 101, 100, 115, 32, 105, 116, 115, 32, 108, 105, 109, 105, 116])] [] ?_ ?_
                · refine st ?_
                  simp
                refine awp_ret ?_
                refine ret_blk ?_
                refine ret_seq ?_
                obtain rfl := Option.some.inj h
                simp
              · have c22 := eqF g20
                refine condF rfl g20 ?_
                refine cut 66 0 [(3, .int .i64 e1), (18, .bool (eqI e1 7))] [] ?_ ?_
                · refine st ?_
                  simp
                rcases sp h with ⟨g23, h⟩ | ⟨g23, h⟩
                · have c24 := eqT g23
                  refine condT rfl g23 ?_
                  refine cut 66 0 [(2, .str [110, 111, 116, 32, 112, 111, 115, 115, 105, 98, 108, 101, 32, 105, 110, 32, 116, 104, 105, 115, 32, 115, 116, 97, 116, 101])] [] ?_ ?_
                  · refine st ?_
                    simp
                  refine awp_ret ?_
                  refine ret_blk ?_
                  refine ret_seq ?_
                  obtain rfl := Option.some.inj h
                  simp
                · have c25 := eqF g23
                  refine condF rfl g23 ?_
                  refine cut 66 0 [(3, .int .i64 e1), (20, .bool (eqI e1 8))] [] ?_ ?_
                  · refine st ?_
                    simp
                  rcases sp h with ⟨g26, h⟩ | ⟨g26, h⟩
                  · have c27 := eqT g26
                    refine condT rfl g26 ?_
                    refine cut 66 0 [(2, .str [116, 104, 101, 114, 101, 32, 105, 115, 32, 110, 111, 110, 101])] [] ?_ ?_
                    · refine st ?_
                      simp
                    refine awp_ret ?_
                    refine ret_blk ?_
                    refine ret_seq ?_
                    obtain rfl := Option.some.inj h
                    simp
                  · have c28 := eqF g26
                    refine condF rfl g26 ?_
                    refine cut 66 0 [(3, .int .i64 e1), (22, .bool (eqI e1 9))] [] ?_ ?_
                    · refine st ?_
                      simp
                    rcases sp h with ⟨g29, h⟩ | ⟨g29, h⟩
                    · have c30 := eqT g29
                      refine condT rfl g29 ?_
                      refine cut 66 0 [(2, .str [116, 104, 101, 32, 115, 97, 109, 101, 32, 110, 97, 109, 101, 32, 116, 119, 105, 99, 101])] [] ?_ ?_
                      · refine st ?_
                        simp
                      refine awp_ret ?_
                      refine ret_blk ?_
                      refine ret_seq ?_
                      obtain rfl := Option.some.inj h
                      simp
                    · have c31 := eqF g29
                      refine condF rfl g29 ?_
                      refine cut 66 0 [(3, .int .i64 e1), (24, .bool (eqI e1 10))] [] ?_ ?_
                      · refine st ?_
                        simp
                      rcases sp h with ⟨g32, h⟩ | ⟨g32, h⟩
                      · have c33 := eqT g32
                        refine condT rfl g32 ?_
                        refine cut 66 0 [(2, .str [97, 110, 32, 117, 110, 107, 110, 111, 119, 110, 32, 110, 97, 109, 101])] [] ?_ ?_
                        · refine st ?_
                          simp
                        refine awp_ret ?_
                        refine ret_blk ?_
                        refine ret_seq ?_
                        obtain rfl := Option.some.inj h
                        simp
                      · have c34 := eqF g32
                        refine condF rfl g32 ?_
                        refine cut 66 0 [(3, .int .i64 e1), (26, .bool (eqI e1 11))] [] ?_ ?_
                        · refine st ?_
                          simp
                        rcases sp h with ⟨g35, h⟩ | ⟨g35, h⟩
                        · have c36 := eqT g35
                          refine condT rfl g35 ?_
                          refine cut 66 0 [(2, .str [97, 32, 99, 111, 110, 115, 116, 114, 117, 99, 116, 111, 114, 32, 111, 102, 32, 97, 32, 119, 114, 111, 110, 103, 32, 107, 105, 110, 100])] [] ?_ ?_
                          · refine st ?_
                            simp
                          refine awp_ret ?_
                          refine ret_blk ?_
                          refine ret_seq ?_
                          obtain rfl := Option.some.inj h
                          simp
                        · have c37 := eqF g35
                          refine condF rfl g35 ?_
                          refine cut 66 0 [(3, .int .i64 e1), (28, .bool (eqI e1 12))] [] ?_ ?_
                          · refine st ?_
                            simp
                          rcases sp h with ⟨g38, h⟩ | ⟨g38, h⟩
                          · have c39 := eqT g38
                            refine condT rfl g38 ?_
                            refine cut 66 0 [(2, .str [97, 32, 119, 114, 111, 110, 103, 32, 116, 121, 112, 101])] [] ?_ ?_
                            · refine st ?_
                              simp
                            refine awp_ret ?_
                            refine ret_blk ?_
                            refine ret_seq ?_
                            obtain rfl := Option.some.inj h
                            simp
                          · have c40 := eqF g38
                            refine condF rfl g38 ?_
                            refine cut 66 0 [(3, .int .i64 e1), (30, .bool (eqI e1 13))] [] ?_ ?_
                            · refine st ?_
                              simp
                            rcases sp h with ⟨g41, h⟩ | ⟨g41, h⟩
                            · have c42 := eqT g41
                              refine condT rfl g41 ?_
                              refine cut 66 0 [(2, .str [97, 32, 116, 121, 112, 101, 32, 116, 104, 97, 116, 32, 119, 111, 117, 108, 100, 32, 99, 111, 110, 116, 97, 105, 110, 32, 105, 116, 115, 101, 108, 102])] [] ?_ ?_
                              · refine st ?_
                                simp
                              refine awp_ret ?_
                              refine ret_blk ?_
                              refine ret_seq ?_
                              obtain rfl := Option.some.inj h
                              simp
                            · have c43 := eqF g41
                              refine condF rfl g41 ?_
                              refine cut 66 0 [(3, .int .i64 e1), (32, .bool (eqI e1 14))] [] ?_ ?_
                              · refine st ?_
                                simp
                              rcases sp h with ⟨g44, h⟩ | ⟨g44, h⟩
                              · have c45 := eqT g44
                                refine condT rfl g44 ?_
                                refine cut 66 0 [(2, .str [97, 32, 109, 97, 116, 99, 104, 32, 116, 104, 97, 116, 32, 105, 115, 32, 110, 111, 116, 32, 101, 120, 104, 97, 117, 115, 116, 105, 118, 101])] [] ?_ ?_
                                · refine st ?_
                                  simp
                                refine awp_ret ?_
                                refine ret_blk ?_
                                refine ret_seq ?_
                                obtain rfl := Option.some.inj h
                                simp
                              · have c46 := eqF g44
                                refine condF rfl g44 ?_
                                refine cut 66 0 [(3, .int .i64 e1), (34, .bool (eqI e1 15))] [] ?_ ?_
                                · refine st ?_
                                  simp
                                rcases sp h with ⟨g47, h⟩ | ⟨g47, h⟩
                                · have c48 := eqT g47
                                  refine condT rfl g47 ?_
                                  refine cut 66 0 [(2, .str [97, 32, 114, 117, 108, 101, 32, 116, 104, 97, 116, 32, 105, 115, 32, 110, 101, 118, 101, 114, 32, 99, 104, 111, 115, 101, 110])] [] ?_ ?_
                                  · refine st ?_
                                    simp
                                  refine awp_ret ?_
                                  refine ret_blk ?_
                                  refine ret_seq ?_
                                  obtain rfl := Option.some.inj h
                                  simp
                                · have c49 := eqF g47
                                  refine condF rfl g47 ?_
                                  refine cut 66 0 [(3, .int .i64 e1), (36, .bool (eqI e1 16))] [] ?_ ?_
                                  · refine st ?_
                                    simp
                                  rcases sp h with ⟨g50, h⟩ | ⟨g50, h⟩
                                  · have c51 := eqT g50
                                    refine condT rfl g50 ?_
                                    refine cut 66 0 [(2, .str [97, 110, 32, 97, 98, 115, 116, 114, 97, 99, 116, 32, 116, 121, 112, 101, 32, 119, 111, 117, 108, 100, 32, 108, 101, 97, 118, 101, 32, 105, 116, 115, 32, 115, 99, 111, 112, 101])] [] ?_ ?_
                                    · refine st ?_
                                      simp
                                    refine awp_ret ?_
                                    refine ret_blk ?_
                                    refine ret_seq ?_
                                    obtain rfl := Option.some.inj h
                                    simp
                                  · have c52 := eqF g50
                                    refine condF rfl g50 ?_
                                    refine cut 66 0 [(3, .int .i64 e1), (38, .bool (eqI e1 17))] [] ?_ ?_
                                    · refine st ?_
                                      simp
                                    rcases sp h with ⟨g53, h⟩ | ⟨g53, h⟩
                                    · have c54 := eqT g53
                                      refine condT rfl g53 ?_
                                      refine cut 66 0 [(2, .str [97, 32, 99, 111, 109, 112, 111, 110, 101, 110, 116, 32, 105, 115, 32, 109, 105, 115, 115, 105, 110, 103])] [] ?_ ?_
                                      · refine st ?_
                                        simp
                                      refine awp_ret ?_
                                      refine ret_blk ?_
                                      refine ret_seq ?_
                                      obtain rfl := Option.some.inj h
                                      simp
                                    · have c55 := eqF g53
                                      refine condF rfl g53 ?_
                                      refine cut 66 0 [(3, .int .i64 e1), (40, .bool (eqI e1 18))] [] ?_ ?_
                                      · refine st ?_
                                        simp
                                      rcases sp h with ⟨g56, h⟩ | ⟨g56, h⟩
                                      · have c57 := eqT g56
                                        refine condT rfl g56 ?_
                                        refine cut 66 0 [(2, .str [97, 110, 32, 97, 98, 115, 116, 114, 97, 99, 116, 32, 116, 121, 112, 101, 32, 104, 97, 115, 32, 110, 111, 32, 114, 111, 111, 116])] [] ?_ ?_
                                        · refine st ?_
                                          simp
                                        refine awp_ret ?_
                                        refine ret_blk ?_
                                        refine ret_seq ?_
                                        obtain rfl := Option.some.inj h
                                        simp
                                      · have c58 := eqF g56
                                        refine condF rfl g56 ?_
                                        refine cut 66 0 [(3, .int .i64 e1), (42, .bool (eqI e1 19))] [] ?_ ?_
                                        · refine st ?_
                                          simp
                                        rcases sp h with ⟨g59, h⟩ | ⟨g59, h⟩
                                        · have c60 := eqT g59
                                          refine condT rfl g59 ?_
                                          refine cut 66 0 [(2, .str [97, 32, 103, 101, 110, 101, 114, 97, 116, 105, 118, 101, 32, 109, 111, 100, 117, 108, 101, 32, 105, 110, 32, 97, 110, 32, 97, 112, 112, 108, 105, 99, 97, 116, 105, 118, 101, 32, 102, 117, 110, 99, 116, 111, 114])] [] ?_ ?_
                                          · refine st ?_
                                            simp
                                          refine awp_ret ?_
                                          refine ret_blk ?_
                                          refine ret_seq ?_
                                          obtain rfl := Option.some.inj h
                                          simp
                                        · have c61 := eqF g59
                                          refine condF rfl g59 ?_
                                          refine cut 66 0 [(3, .int .i64 e1), (44, .bool (eqI e1 20))] [] ?_ ?_
                                          · refine st ?_
                                            simp
                                          rcases sp h with ⟨g62, h⟩ | ⟨g62, h⟩
                                          · have c63 := eqT g62
                                            refine condT rfl g62 ?_
                                            refine cut 66 0 [(2, .str [97, 32, 116, 121, 112, 101, 32, 116, 104, 97, 116, 32, 99, 97, 110, 110, 111, 116, 32, 98, 101, 32, 114, 101, 102, 105, 110, 101, 100])] [] ?_ ?_
                                            · refine st ?_
                                              simp
                                            refine awp_ret ?_
                                            refine ret_blk ?_
                                            refine ret_seq ?_
                                            obtain rfl := Option.some.inj h
                                            simp
                                          · have c64 := eqF g62
                                            refine condF rfl g62 ?_
                                            refine cut 66 0 [(3, .int .i64 e1), (46, .bool (eqI e1 21))] [] ?_ ?_
                                            · refine st ?_
                                              simp
                                            rcases sp h with ⟨g65, h⟩ | ⟨g65, h⟩
                                            · have c66 := eqT g65
                                              refine condT rfl g65 ?_
                                              refine cut 66 0 [(2, .str [117, 110, 105, 116, 115, 32, 116, 104, 97, 116, 32, 105, 109, 112, 111, 114, 116, 32, 101, 97, 99, 104, 32, 111, 116, 104, 101, 114])] [] ?_ ?_
                                              · refine st ?_
                                                simp
                                              refine awp_ret ?_
                                              refine ret_blk ?_
                                              refine ret_seq ?_
                                              obtain rfl := Option.some.inj h
                                              simp
                                            · have c67 := eqF g65
                                              refine condF rfl g65 ?_
                                              refine cut 66 0 [(3, .int .i64 e1), (48, .bool (eqI e1 22))] [] ?_ ?_
                                              · refine st ?_
                                                simp
                                              rcases sp h with ⟨g68, h⟩ | ⟨g68, h⟩
                                              · have c69 := eqT g68
                                                refine condT rfl g68 ?_
                                                refine cut 66 0 [(2, .str [109, 111, 114, 101, 32, 115, 116, 101, 112, 115, 32, 116, 104, 97, 110, 32, 112, 101, 114, 109, 105, 116, 116, 101, 100])] [] ?_ ?_
                                                · refine st ?_
                                                  simp
                                                refine awp_ret ?_
                                                refine ret_blk ?_
                                                refine ret_seq ?_
                                                obtain rfl := Option.some.inj h
                                                simp
                                              · have c70 := eqF g68
                                                refine condF rfl g68 ?_
                                                refine cut 66 0 [(3, .int .i64 e1), (50, .bool (eqI e1 23))] [] ?_ ?_
                                                · refine st ?_
                                                  simp
                                                rcases sp h with ⟨g71, h⟩ | ⟨g71, h⟩
                                                · have c72 := eqT g71
                                                  refine condT rfl g71 ?_
                                                  refine cut 66 0 [(2, .str [97, 32, 116, 101, 114, 109, 32, 116, 104, 97, 116, 32, 103, 111, 101, 115, 32, 119, 114, 111, 110, 103])] [] ?_ ?_
                                                  · refine st ?_
                                                    simp
                                                  refine awp_ret ?_
                                                  refine ret_blk ?_
                                                  refine ret_seq ?_
                                                  obtain rfl := Option.some.inj h
                                                  simp
                                                · have c73 := eqF g71
                                                  refine condF rfl g71 ?_
                                                  refine cut 66 0 [(3, .int .i64 e1), (52, .bool (eqI e1 24))] [] ?_ ?_
                                                  · refine st ?_
                                                    simp
                                                  rcases sp h with ⟨g74, h⟩ | ⟨g74, h⟩
                                                  · have c75 := eqT g74
                                                    refine condT rfl g74 ?_
                                                    refine cut 66 0 [(2, .str [98, 121, 116, 101, 32, 99, 111, 100, 101, 32, 116, 104, 97, 116, 32, 105, 115, 32, 110, 111, 116, 32, 97, 99, 99, 101, 112, 116, 101, 100])] [] ?_ ?_
                                                    · refine st ?_
                                                      simp
                                                    refine awp_ret ?_
                                                    refine ret_blk ?_
                                                    refine ret_seq ?_
                                                    obtain rfl := Option.some.inj h
                                                    simp
                                                  · have c76 := eqF g74
                                                    refine condF rfl g74 ?_
                                                    refine cut 66 0 [(3, .int .i64 e1), (54, .bool (eqI e1 25))] [] ?_ ?_
                                                    · refine st ?_
                                                      simp
                                                    rcases sp h with ⟨g77, h⟩ | ⟨g77, h⟩
                                                    · have c78 := eqT g77
                                                      refine condT rfl g77 ?_
                                                      refine cut 66 0 [(2, .str [116, 104, 101, 32, 104, 101, 97, 112, 32, 105, 115, 32, 116, 111, 111, 32, 115, 109, 97, 108, 108])] [] ?_ ?_
                                                      · refine st ?_
                                                        simp
                                                      refine awp_ret ?_
                                                      refine ret_blk ?_
                                                      refine ret_seq ?_
                                                      obtain rfl := Option.some.inj h
                                                      simp
                                                    · have c79 := eqF g77
                                                      refine condF rfl g77 ?_
                                                      refine cut 66 0 [(3, .int .i64 e1), (56, .bool (eqI e1 26))] [] ?_ ?_
                                                      · refine st ?_
                                                        simp
                                                      rcases sp h with ⟨g80, h⟩ | ⟨g80, h⟩
                                                      · have c81 := eqT g80
                                                        refine condT rfl g80 ?_
                                                        refine cut 66 0 [(2, .str [97, 32, 115, 105, 103, 110, 97, 116, 117, 114, 101, 32, 116, 104, 97, 116, 32, 105, 115, 32, 110, 111, 116, 32, 102, 105, 114, 115, 116, 45, 111, 114, 100, 101, 114])] [] ?_ ?_
                                                        · refine st ?_
                                                          simp
                                                        refine awp_ret ?_
                                                        refine ret_blk ?_
                                                        refine ret_seq ?_
                                                        obtain rfl := Option.some.inj h
                                                        simp
                                                      · have c82 := eqF g80
                                                        refine condF rfl g80 ?_
                                                        refine cut 66 0 [(3, .int .i64 e1), (58, .bool (eqI e1 27))] [] ?_ ?_
                                                        · refine st ?_
                                                          simp
                                                        rcases sp h with ⟨g83, h⟩ | ⟨g83, h⟩
                                                        · have c84 := eqT g83
                                                          refine condT rfl g83 ?_
                                                          refine cut 66 0 [(2, .str [109, 111, 114, 101, 32, 115, 116, 97, 116, 101, 115, 32, 116, 104, 97, 110, 32, 112, 101, 114, 109, 105, 116, 116, 101, 100])] [] ?_ ?_
                                                          · refine st ?_
                                                            simp
                                                          refine awp_ret ?_
                                                          refine ret_blk ?_
                                                          refine ret_seq ?_
                                                          obtain rfl := Option.some.inj h
                                                          simp
                                                        · have c85 := eqF g83
                                                          refine condF rfl g83 ?_
                                                          refine cut 66 0 [(3, .int .i64 e1), (60, .bool (eqI e1 28))] [] ?_ ?_
                                                          · refine st ?_
                                                            simp
                                                          rcases sp h with ⟨g86, h⟩ | ⟨g86, h⟩
                                                          · have c87 := eqT g86
                                                            refine condT rfl g86 ?_
                                                            refine cut 66 0 [(2, .str [116, 119, 111, 32, 115, 116, 114, 117, 99, 116, 117, 114, 101, 115, 32, 100, 105, 102, 102, 101, 114])] [] ?_ ?_
                                                            · refine st ?_
                                                              simp
                                                            refine awp_ret ?_
                                                            refine ret_blk ?_
                                                            refine ret_seq ?_
                                                            obtain rfl := Option.some.inj h
                                                            simp
                                                          · have c88 := eqF g86
                                                            refine condF rfl g86 ?_
                                                            refine cut 66 0 [(3, .int .i64 e1), (62, .bool (eqI e1 29))] [] ?_ ?_
                                                            · refine st ?_
                                                              simp
                                                            rcases sp h with ⟨g89, h⟩ | ⟨g89, h⟩
                                                            · have c90 := eqT g89
                                                              refine condT rfl g89 ?_
                                                              refine cut 66 0 [(2, .str [97, 32, 99, 104, 101, 99, 107, 32, 115, 117, 109, 32, 105, 115, 32, 119, 114, 111, 110, 103])] [] ?_ ?_
                                                              · refine st ?_
                                                                simp
                                                              refine awp_ret ?_
                                                              refine ret_blk ?_
                                                              refine ret_seq ?_
                                                              obtain rfl := Option.some.inj h
                                                              simp
                                                            · have c91 := eqF g89
                                                              refine condF rfl g89 ?_
                                                              refine cut 66 0 [(64, .bool (eqI e1 30))] [] ?_ ?_
                                                              · refine st ?_
                                                                simp
                                                              rcases sp h with ⟨g92, h⟩ | ⟨g92, h⟩
                                                              · have c93 := eqT g92
                                                                refine condT rfl g92 ?_
                                                                refine cut 66 0 [(2, .str [97, 32, 99, 114, 97, 115, 104])] [] ?_ ?_
                                                                · refine st ?_
                                                                  simp
                                                                refine awp_ret ?_
                                                                refine ret_blk ?_
                                                                refine ret_seq ?_
                                                                obtain rfl := Option.some.inj h
                                                                simp
                                                              · have c94 := eqF g92
                                                                refine condF rfl g92 ?_
                                                                refine awp_skip ?_
                                                                refine blk_n ?_
                                                                refine seq_eq ?_
                                                                refine cut 66 0 [(2, .str [117, 110, 107, 110, 111, 119, 110, 32, 101, 114, 114, 111, 114])] [] ?_ ?_
                                                                · refine st ?_
                                                                  simp
                                                                refine awp_ret ?_
                                                                obtain rfl := Option.some.inj h
                                                                simp
end Go.Proofs.YtlhikhaailhoaaaDoor
set_option linter.unusedVariables false
set_option linter.unusedSimpArgs false
set_option maxRecDepth 100000
set_option maxHeartbeats 1000000
namespace Go.Proofs.YtlhikhaailhoaaaDoor
open Go Go.Abs
theorem explain_Step_ok (fuel : Nat) (s1 : Api.Step) (r : (List UInt8) × Int) (h : M.explain_Step fuel s1 = some r) : Pure Tryd.prog 12 [.agg [.str s1.Unit, .int .i64 s1.Reason.Op, .str s1.Reason.Unit, .bool s1.Compiled, .int .i64 s1.Code, .bool s1.Same]] (.tup [.str r.1, .int .i64 r.2]) := by
  rw [M.explain_Step] at h
  refine pure_of_body Tryd.func12 (by rfl) (by rfl) (by simp) (by simp) (by simp) ?_
  refine cut 27 0 [(1, .mptr 0 0)] [[.str s1.Unit, .int .i64 s1.Reason.Op, .str s1.Reason.Unit, .bool s1.Compiled, .int .i64 s1.Code, .bool s1.Same]] ?_ ?_
  · refine st ?_
    simp
  refine awp_seq ?_
  obtain ⟨v2, q3, h⟩ := bs h
  refine cut 27 0 [(1, .mptr 0 0), (7, .bool (!v2))] [[.str s1.Unit, .int .i64 s1.Reason.Op, .str s1.Reason.Unit, .bool s1.Compiled, .int .i64 s1.Code, .bool s1.Same]] ?_ ?_
  · refine st ?_
    simp
    have r30 := explain_valid_ok fuel s1 v2 q3
    try simp [] at r30
    refine callPure r30 (by simp) rfl ?_
    simp
  rcases sp h with ⟨g4, h⟩ | ⟨g4, h⟩
  · have g5 := notT g4
    refine condT rfl g4 ?_
    refine cut 27 0 [(2, .str ([] : List UInt8)), (3, .int .i64 1)] [[.str s1.Unit, .int .i64 s1.Reason.Op, .str s1.Reason.Unit, .bool s1.Compiled, .int .i64 s1.Code, .bool s1.Same]] ?_ ?_
    · refine st ?_
      simp
    refine awp_ret ?_
    refine ret_seq ?_
    obtain rfl := Option.some.inj h
    simp
  · have g6 := notF g4
    refine condF rfl g4 ?_
    refine awp_skip ?_
    refine seq_eq ?_
    obtain ⟨v7, q8, h⟩ := bs h
    obtain ⟨v9, q10, h⟩ := bs h
    obtain ⟨v11, q12, h⟩ := bs h
    obtain ⟨v13, q14, h⟩ := bs h
    refine cut 27 0 [(1, .mptr 0 0), (4, .osl ⟨1, 9⟩ ([v7, v9, v11, v13].map cS))] [[.str s1.Unit, .int .i64 s1.Reason.Op, .str s1.Reason.Unit, .bool s1.Compiled, .int .i64 s1.Code, .bool s1.Same]] ?_ ?_
    · refine awp_region_draw [] mixed (n := 27) rfl (by decide) ?_
      simp
      have r26 := explain_reason_ok s1.Reason v7 q8
      try simp [] at r26
      refine callD r26 (by simp) rfl ?_
      simp
      have r27 := explain_either_ok s1.Compiled [99, 111, 109, 112, 105, 108, 101, 100] [110, 111, 116, 32, 99, 111, 109, 112, 105, 108, 101, 100] v9 q10
      try simp [] at r27
      refine callD r27 (by simp) rfl ?_
      simp
      have r28 := explain_either_ok s1.Same [115, 97, 109, 101, 32, 105, 110, 116, 101, 114, 102, 97, 99, 101] [111, 116, 104, 101, 114, 32, 105, 110, 116, 101, 114, 102, 97, 99, 101] v11 q12
      try simp [] at r28
      refine callD r28 (by simp) rfl ?_
      simp
      have r29 := explain_Error_ok s1.Code v13 q14
      try simp [] at r29
      refine callD r29 (by simp) rfl ?_
      simp
    obtain ⟨s15, q16, h⟩ := bs h
    obtain ⟨q17, q18⟩ := cat_ok q16
    try simp at q17
    try simp at q18
    obtain ⟨v19, q20, h⟩ := bs h
    obtain ⟨s21, q22, h⟩ := bs h
    obtain ⟨q23, q24⟩ := cat_ok q22
    try simp at q23
    try simp at q24
    refine cut 27 0 [(2, .str s21), (3, .int .i64 0)] [[.str s1.Unit, .int .i64 s1.Reason.Op, .str s1.Reason.Unit, .bool s1.Compiled, .int .i64 s1.Code, .bool s1.Same]] ?_ ?_
    · refine awp_region_draw [] mixed (n := 27) rfl (by decide) ?_
      simp [q17, q18, q23, q24]
      have r25 := strings_Join_ok [v7, v9, v11, v13] [59, 32] v19 q20
      try simp [q17, q18, q23, q24] at r25
      refine callD r25 (by simp) rfl ?_
      simp [q17, q18, q23, q24]
    refine awp_ret ?_
    obtain rfl := Option.some.inj h
    simp
end Go.Proofs.YtlhikhaailhoaaaDoor
set_option linter.unusedVariables false
set_option linter.unusedSimpArgs false
set_option maxRecDepth 100000
set_option maxHeartbeats 1000000
namespace Go.Proofs.YtlhikhaailhoaaaDoor
open Go Go.Abs
theorem stringslite_HasPrefix_ok (s1 : (List UInt8)) (prefix2 : (List UInt8)) (r : Bool) (h : M.stringslite_HasPrefix s1 prefix2 = some r) : Pure Tryd.prog 62 [.str s1, .str prefix2] (.bool r) := by
  rw [M.stringslite_HasPrefix] at h
  refine pure_of_body Tryd.func62 (by rfl) (by rfl) (by simp) (by simp) (by simp) ?_
  refine cut 18 0 [(0, .str s1), (1, .str prefix2)] [] ?_ ?_
  · refine st ?_
    simp
  obtain ⟨b14, q15, h⟩ := bs h
  refine cut 18 0 [(4, .bool b14)] [] ?_ ?_
  · rcases sp q15 with ⟨g3, q15⟩ | ⟨g3, q15⟩
    · have c4 := leT g3
      refine factS 1 rfl fun f5 => ?_
      refine factS 0 rfl fun f6 => ?_
      obtain ⟨s7, q8, q15⟩ := bs q15
      obtain ⟨q9, q10⟩ := subC_ok q8
      try simp at q9
      try simp at q10
      obtain rfl := Option.some.inj q15
      refine st ?_
      simp [g3, q9, q10]
    · have c11 := leF g3
      refine factS 1 rfl fun f12 => ?_
      refine factS 0 rfl fun f13 => ?_
      obtain rfl := Option.some.inj q15
      refine st ?_
      simp [g3]
  refine awp_ret ?_
  obtain rfl := Option.some.inj h
  simp
end Go.Proofs.YtlhikhaailhoaaaDoor
set_option linter.unusedVariables false
set_option linter.unusedSimpArgs false
set_option maxRecDepth 100000
set_option maxHeartbeats 1000000
namespace Go.Proofs.YtlhikhaailhoaaaDoor
open Go Go.Abs
theorem stringslite_CutPrefix_ok (s1 : (List UInt8)) (prefix2 : (List UInt8)) (r : (List UInt8) × Bool) (h : M.stringslite_CutPrefix s1 prefix2 = some r) : Pure Tryd.prog 49 [.str s1, .str prefix2] (.tup [.str r.1, .bool r.2]) := by
  rw [M.stringslite_CutPrefix] at h
  refine pure_of_body Tryd.func49 (by rfl) (by rfl) (by simp) (by simp) (by simp) ?_
  refine cut 15 0 [(0, .str s1), (1, .str prefix2)] [] ?_ ?_
  · refine st ?_
    simp
  refine awp_seq ?_
  obtain ⟨v3, q4, h⟩ := bs h
  refine cut 15 0 [(0, .str s1), (1, .str prefix2), (9, .bool (!v3))] [] ?_ ?_
  · refine st ?_
    simp
    have r12 := stringslite_HasPrefix_ok s1 prefix2 v3 q4
    try simp [] at r12
    refine callPure r12 (by simp) rfl ?_
    simp
  rcases sp h with ⟨g5, h⟩ | ⟨g5, h⟩
  · have g6 := notT g5
    refine condT rfl g5 ?_
    refine cut 15 0 [(4, .str s1), (5, .bool false)] [] ?_ ?_
    · refine st ?_
      simp
    refine awp_ret ?_
    refine ret_seq ?_
    obtain rfl := Option.some.inj h
    simp
  · have g7 := notF g5
    refine condF rfl g5 ?_
    refine awp_skip ?_
    refine seq_eq ?_
    obtain ⟨s8, q9, h⟩ := bs h
    obtain ⟨q10, q11⟩ := subC_ok q9
    try simp at q10
    try simp at q11
    refine cut 15 0 [(4, .str s8), (5, .bool true)] [] ?_ ?_
    · refine st ?_
      simp [q10, q11]
    refine awp_ret ?_
    obtain rfl := Option.some.inj h
    simp
end Go.Proofs.YtlhikhaailhoaaaDoor
set_option linter.unusedVariables false
set_option linter.unusedSimpArgs false
set_option maxRecDepth 100000
set_option maxHeartbeats 1000000
namespace Go.Proofs.YtlhikhaailhoaaaDoor
open Go Go.Abs
theorem strings_CutPrefix_ok (s1 : (List UInt8)) (prefix2 : (List UInt8)) (r : (List UInt8) × Bool) (h : M.strings_CutPrefix s1 prefix2 = some r) : Pure Tryd.prog 39 [.str s1, .str prefix2] (.tup [.str r.1, .bool r.2]) := by
  rw [M.strings_CutPrefix] at h
  refine pure_of_body Tryd.func39 (by rfl) (by rfl) (by simp) (by simp) (by simp) ?_
  refine cut 11 0 [(0, .str s1), (1, .str prefix2)] [] ?_ ?_
  · refine st ?_
    simp
  obtain ⟨v3, q4, h⟩ := bs h
  refine cut 11 0 [(4, .str v3.1), (5, .bool v3.2)] [] ?_ ?_
  · refine st ?_
    simp
    have r5 := stringslite_CutPrefix_ok s1 prefix2 v3 q4
    try simp [] at r5
    refine callPure r5 (by simp) rfl ?_
    simp
  refine awp_ret ?_
  obtain rfl := Option.some.inj h
  simp
end Go.Proofs.YtlhikhaailhoaaaDoor
set_option linter.unusedVariables false
set_option linter.unusedSimpArgs false
set_option maxRecDepth 100000
set_option maxHeartbeats 1000000
namespace Go.Proofs.YtlhikhaailhoaaaDoor
open Go Go.Abs
theorem stringslite_HasSuffix_ok (s1 : (List UInt8)) (suffix2 : (List UInt8)) (r : Bool) (h : M.stringslite_HasSuffix s1 suffix2 = some r) : Pure Tryd.prog 63 [.str s1, .str suffix2] (.bool r) := by
  rw [M.stringslite_HasSuffix] at h
  refine pure_of_body Tryd.func63 (by rfl) (by rfl) (by simp) (by simp) (by simp) ?_
  refine cut 21 0 [(0, .str s1), (1, .str suffix2)] [] ?_ ?_
  · refine st ?_
    simp
  obtain ⟨b15, q16, h⟩ := bs h
  refine cut 21 0 [(4, .bool b15)] [] ?_ ?_
  · rcases sp q16 with ⟨g3, q16⟩ | ⟨g3, q16⟩
    · have c4 := leT g3
      refine factS 1 rfl fun f5 => ?_
      refine factS 0 rfl fun f6 => ?_
      have q7 : Rng .i64 ((s1.length : Int) - (suffix2.length : Int)) := by simp only [Rng, inR]; omega
      try simp at q7
      obtain ⟨s8, q9, q16⟩ := bs q16
      obtain ⟨q10, q11⟩ := subC_ok q9
      try simp at q10
      try simp at q11
      obtain rfl := Option.some.inj q16
      refine st ?_
      simp [g3, q7, q10, q11]
    · have c12 := leF g3
      refine factS 1 rfl fun f13 => ?_
      refine factS 0 rfl fun f14 => ?_
      obtain rfl := Option.some.inj q16
      refine st ?_
      simp [g3]
  refine awp_ret ?_
  obtain rfl := Option.some.inj h
  simp
end Go.Proofs.YtlhikhaailhoaaaDoor
set_option linter.unusedVariables false
set_option linter.unusedSimpArgs false
set_option maxRecDepth 100000
set_option maxHeartbeats 1000000
namespace Go.Proofs.YtlhikhaailhoaaaDoor
open Go Go.Abs
theorem stringslite_CutSuffix_ok (s1 : (List UInt8)) (suffix2 : (List UInt8)) (r : (List UInt8) × Bool) (h : M.stringslite_CutSuffix s1 suffix2 = some r) : Pure Tryd.prog 50 [.str s1, .str suffix2] (.tup [.str r.1, .bool r.2]) := by
  rw [M.stringslite_CutSuffix] at h
  refine pure_of_body Tryd.func50 (by rfl) (by rfl) (by simp) (by simp) (by simp) ?_
  refine cut 18 0 [(0, .str s1), (1, .str suffix2)] [] ?_ ?_
  · refine st ?_
    simp
  refine awp_seq ?_
  obtain ⟨v3, q4, h⟩ := bs h
  refine cut 18 0 [(0, .str s1), (1, .str suffix2), (9, .bool (!v3))] [] ?_ ?_
  · refine st ?_
    simp
    have r17 := stringslite_HasSuffix_ok s1 suffix2 v3 q4
    try simp [] at r17
    refine callPure r17 (by simp) rfl ?_
    simp
  rcases sp h with ⟨g5, h⟩ | ⟨g5, h⟩
  · have g6 := notT g5
    refine condT rfl g5 ?_
    refine cut 18 0 [(4, .str s1), (5, .bool false)] [] ?_ ?_
    · refine st ?_
      simp
    refine awp_ret ?_
    refine ret_seq ?_
    obtain rfl := Option.some.inj h
    simp
  · have g7 := notF g5
    refine condF rfl g5 ?_
    refine awp_skip ?_
    refine seq_eq ?_
    obtain ⟨n8, q9, h⟩ := bs h
    obtain ⟨q10, q11⟩ := chk_ok q9
    try simp at q10
    try simp at q11
    have c12 := q10; simp only [Rng, inR] at c12
    obtain ⟨s13, q14, h⟩ := bs h
    obtain ⟨q15, q16⟩ := subC_ok q14
    try simp at q15
    try simp at q16
    refine cut 18 0 [(4, .str s13), (5, .bool true)] [] ?_ ?_
    · refine st ?_
      simp [q10, q11, q15, q16]
    refine awp_ret ?_
    obtain rfl := Option.some.inj h
    simp
end Go.Proofs.YtlhikhaailhoaaaDoor
set_option linter.unusedVariables false
set_option linter.unusedSimpArgs false
set_option maxRecDepth 100000
set_option maxHeartbeats 1000000
namespace Go.Proofs.YtlhikhaailhoaaaDoor
open Go Go.Abs
theorem strings_CutSuffix_ok (s1 : (List UInt8)) (suffix2 : (List UInt8)) (r : (List UInt8) × Bool) (h : M.strings_CutSuffix s1 suffix2 = some r) : Pure Tryd.prog 40 [.str s1, .str suffix2] (.tup [.str r.1, .bool r.2]) := by
  rw [M.strings_CutSuffix] at h
  refine pure_of_body Tryd.func40 (by rfl) (by rfl) (by simp) (by simp) (by simp) ?_
  refine cut 11 0 [(0, .str s1), (1, .str suffix2)] [] ?_ ?_
  · refine st ?_
    simp
  obtain ⟨v3, q4, h⟩ := bs h
  refine cut 11 0 [(4, .str v3.1), (5, .bool v3.2)] [] ?_ ?_
  · refine st ?_
    simp
    have r5 := stringslite_CutSuffix_ok s1 suffix2 v3 q4
    try simp [] at r5
    refine callPure r5 (by simp) rfl ?_
    simp
  refine awp_ret ?_
  obtain rfl := Option.some.inj h
  simp
end Go.Proofs.YtlhikhaailhoaaaDoor
set_option linter.unusedVariables false
set_option linter.unusedSimpArgs false
set_option maxRecDepth 100000
set_option maxHeartbeats 1000000
namespace Go.Proofs.YtlhikhaailhoaaaDoor
open Go Go.Abs
theorem explain_parsed_ok (s1 : (List UInt8)) (r : Api.Reason) (h : M.explain_parsed s1 = some r) : Pure Tryd.prog 22 [.str s1] (.agg [.int .i64 r.Op, .str r.Unit]) := by
  rw [M.explain_parsed] at h
  refine pure_of_body Tryd.func22 (by rfl) (by rfl) (by simp) (by simp) (by simp) ?_
  refine cut 29 0 [(0, .str s1), (2, .mptr 0 0)] [[.int .i64 0, .str ([] : List UInt8)]] ?_ ?_
  · refine st ?_
    simp
  refine awp_seq ?_
  refine cut 29 0 [(0, .str s1), (2, .mptr 0 0), (5, .str s1)] [[.int .i64 0, .str ([] : List UInt8)]] ?_ ?_
  · refine st ?_
    simp
  refine awp_block ?_
  refine cut 29 0 [(0, .str s1), (2, .mptr 0 0), (5, .str s1), (6, .bool (eqS s1 [110, 101, 118, 101, 114, 32, 98, 117, 105, 108, 116]))] [[.int .i64 0, .str ([] : List UInt8)]] ?_ ?_
  · refine st ?_
    simp
  rcases sp h with ⟨g2, h⟩ | ⟨g2, h⟩
  · refine condT rfl g2 ?_
    refine cut 29 0 [(2, .mptr 0 0)] [[.int .i64 1, .str ([] : List UInt8)]] ?_ ?_
    · refine st ?_
      simp
    refine awp_ret ?_
    refine ret_blk ?_
    refine ret_seq ?_
    obtain rfl := Option.some.inj h
    simp
  · refine condF rfl g2 ?_
    refine cut 29 0 [(0, .str s1), (2, .mptr 0 0), (5, .str s1), (9, .bool (eqS s1 [110, 101, 119, 32, 115, 111, 117, 114, 99, 101]))] [[.int .i64 0, .str ([] : List UInt8)]] ?_ ?_
    · refine st ?_
      simp
    rcases sp h with ⟨g3, h⟩ | ⟨g3, h⟩
    · refine condT rfl g3 ?_
      refine cut 29 0 [(2, .mptr 0 0)] [[.int .i64 2, .str ([] : List UInt8)]] ?_ ?_
      · refine st ?_
        simp
      refine awp_ret ?_
      refine ret_blk ?_
      refine ret_seq ?_
      obtain rfl := Option.some.inj h
      simp
    · refine condF rfl g3 ?_
      refine cut 29 0 [(0, .str s1), (2, .mptr 0 0), (12, .bool (eqS s1 [111, 116, 104, 101, 114, 32, 105, 109, 112, 111, 114, 116, 115]))] [[.int .i64 0, .str ([] : List UInt8)]] ?_ ?_
      · refine st ?_
        simp
      rcases sp h with ⟨g4, h⟩ | ⟨g4, h⟩
      · refine condT rfl g4 ?_
        refine cut 29 0 [(2, .mptr 0 0)] [[.int .i64 3, .str ([] : List UInt8)]] ?_ ?_
        · refine st ?_
          simp
        refine awp_ret ?_
        refine ret_blk ?_
        refine ret_seq ?_
        obtain rfl := Option.some.inj h
        simp
      · refine condF rfl g4 ?_
        refine awp_skip ?_
        refine blk_n ?_
        refine seq_eq ?_
        refine awp_seq ?_
        obtain ⟨v5, q6, h⟩ := bs h
        refine cut 29 0 [(2, .mptr 0 0), (3, .str v5.1), (4, .bool v5.2)] [[.int .i64 0, .str ([] : List UInt8)]] ?_ ?_
        · refine st ?_
          simp
          have r11 := strings_CutPrefix_ok s1 [116, 104, 101, 32, 105, 110, 116, 101, 114, 102, 97, 99, 101, 32, 111, 102, 32] v5 q6
          try simp [] at r11
          refine callPure r11 (by simp) rfl ?_
          simp
        refine cut 29 0 [(2, .mptr 0 0), (3, .str v5.1), (20, .bool v5.2)] [[.int .i64 0, .str ([] : List UInt8)]] ?_ ?_
        · refine st ?_
          simp
        rcases sp h with ⟨g7, h⟩ | ⟨g7, h⟩
        · refine condT rfl g7 ?_
          obtain ⟨v8, q9, h⟩ := bs h
          refine cut 29 0 [(2, .mptr 0 0), (3, .str v8.1)] [[.int .i64 0, .str ([] : List UInt8)]] ?_ ?_
          · refine st ?_
            simp
            have r10 := strings_CutSuffix_ok v5.1 [32, 104, 97, 115, 32, 99, 104, 97, 110, 103, 101, 100] v8 q9
            try simp [] at r10
            refine callPure r10 (by simp) rfl ?_
            simp
          refine cut 29 0 [(2, .mptr 0 0)] [[.int .i64 4, .str v8.1]] ?_ ?_
          · refine st ?_
            simp
          refine awp_ret ?_
          refine ret_seq ?_
          obtain rfl := Option.some.inj h
          simp
        · refine condF rfl g7 ?_
          refine awp_skip ?_
          refine seq_eq ?_
          refine cut 29 0 [(2, .mptr 0 0)] [[.int .i64 0, .str ([] : List UInt8)]] ?_ ?_
          · refine st ?_
            simp
          refine awp_ret ?_
          obtain rfl := Option.some.inj h
          simp
end Go.Proofs.YtlhikhaailhoaaaDoor
set_option linter.unusedVariables false
set_option linter.unusedSimpArgs false
set_option maxRecDepth 100000
set_option maxHeartbeats 1000000
namespace Go.Proofs.YtlhikhaailhoaaaDoor
open Go Go.Abs
theorem explain_Parse_ok (fuel : Nat) (s1 : (List UInt8)) (r : Api.Step × Int) (h : M.explain_Parse fuel s1 = some r) : Pure Tryd.prog 7 [.str s1] (.tup [.agg [.str r.1.Unit, .int .i64 r.1.Reason.Op, .str r.1.Reason.Unit, .bool r.1.Compiled, .int .i64 r.1.Code, .bool r.1.Same], .int .i64 r.2]) := by
  rw [M.explain_Parse] at h
  refine pure_of_body Tryd.func7 (by rfl) (by rfl) (by simp) (by simp) (by simp) ?_
  refine cut 68 0 [(0, .str s1), (2, .mptr 0 0)] [[.str ([] : List UInt8), .int .i64 0, .str ([] : List UInt8), .bool false, .int .i64 0, .bool false]] ?_ ?_
  · refine st ?_
    simp
  refine awp_seq ?_
  refine cut 68 0 [(0, .str s1), (2, .mptr 0 0), (14, .bool (ltI 16384 (s1.length : Int)))] [[.str ([] : List UInt8), .int .i64 0, .str ([] : List UInt8), .bool false, .int .i64 0, .bool false]] ?_ ?_
  · refine st ?_
    simp
  rcases sp h with ⟨g2, h⟩ | ⟨g2, h⟩
  · have c3 := ltT g2
    refine condT rfl g2 ?_
    refine factS 0 rfl fun f4 => ?_
    refine cut 68 0 [(2, .mptr 0 0), (3, .int .i64 5)] [[.str ([] : List UInt8), .int .i64 0, .str ([] : List UInt8), .bool false, .int .i64 0, .bool false]] ?_ ?_
    · refine st ?_
      simp
    refine awp_ret ?_
    refine ret_seq ?_
    obtain rfl := Option.some.inj h
    simp
  · have c5 := ltF g2
    refine condF rfl g2 ?_
    refine factS 0 rfl fun f6 => ?_
    refine awp_skip ?_
    refine seq_eq ?_
    obtain ⟨v7, q8, h⟩ := bs h
    refine cut 68 0 [(0, .str s1), (2, .mptr 0 0), (4, .str v7.1), (5, .str v7.2.1)] [[.str ([] : List UInt8), .int .i64 0, .str ([] : List UInt8), .bool false, .int .i64 0, .bool false]] ?_ ?_
    · refine st ?_
      simp
      have r58 := strings_Cut_ok s1 [58, 32] v7 q8
      try simp [] at r58
      refine callPure r58 (by simp) rfl ?_
      simp
    obtain ⟨v9, q10, h⟩ := bs h
    refine cut 68 0 [(0, .str s1), (2, .mptr 0 0), (4, .str v7.1), (7, .sl (v9.map cS))] [[.str ([] : List UInt8), .int .i64 0, .str ([] : List UInt8), .bool false, .int .i64 0, .bool false]] ?_ ?_
    · refine st ?_
      simp
      have r57 := strings_Split_ok v7.2.1 [59, 32] v9 q10
      try simp [] at r57
      refine callPure r57 (by simp) rfl ?_
      simp
    refine awp_seq ?_
    refine cut 68 0 [(0, .str s1), (2, .mptr 0 0), (4, .str v7.1), (7, .sl (v9.map cS)), (26, .bool (!(eqI (v9.length : Int) 4)))] [[.str ([] : List UInt8), .int .i64 0, .str ([] : List UInt8), .bool false, .int .i64 0, .bool false]] ?_ ?_
    · refine st ?_
      simp
    rcases sp h with ⟨g11, h⟩ | ⟨g11, h⟩
    · have g12 := notT g11
      have c13 := eqF g12
      refine condT rfl g11 ?_
      refine cut 68 0 [(2, .mptr 0 0), (3, .int .i64 3)] [[.str ([] : List UInt8), .int .i64 0, .str ([] : List UInt8), .bool false, .int .i64 0, .bool false]] ?_ ?_
      · refine st ?_
        simp
      refine awp_ret ?_
      refine ret_seq ?_
      obtain rfl := Option.some.inj h
      simp
    · have g14 := notF g11
      have c15 := eqT g14
      refine condF rfl g11 ?_
      refine awp_skip ?_
      refine seq_eq ?_
      obtain ⟨x16, q17, h⟩ := bs h
      obtain ⟨v18, q19, h⟩ := bs h
      obtain ⟨x20, q21, h⟩ := bs h
      obtain ⟨x22, q23, h⟩ := bs h
      refine cut 68 0 [(0, .str s1), (2, .mptr 0 0), (7, .sl (v9.map cS)), (8, .mptr 1 0)] [[.str ([] : List UInt8), .int .i64 0, .str ([] : List UInt8), .bool false, .int .i64 0, .bool false], [.str v7.1, .int .i64 v18.Op, .str v18.Unit, .bool (eqS x20 [99, 111, 109, 112, 105, 108, 101, 100]), .int .i64 0, .bool (eqS x22 [115, 97, 109, 101, 32, 105, 110, 116, 101, 114, 102, 97, 99, 101])]] ?_ ?_
      · refine awp_region_draw [] mixed (n := 68) rfl (by decide) ?_
        simp [q17, q21, q23]
        have r56 := explain_parsed_ok x16 v18 q19
        try simp [q17, q21, q23] at r56
        refine callD r56 (by simp) rfl ?_
        simp [q17, q21, q23]
      refine awp_seq ?_
      refine cut 68 0 [(0, .str s1), (2, .mptr 0 0), (7, .sl (v9.map cS)), (8, .mptr 1 0), (9, .int .i64 0)] [[.str ([] : List UInt8), .int .i64 0, .str ([] : List UInt8), .bool false, .int .i64 0, .bool false], [.str v7.1, .int .i64 v18.Op, .str v18.Unit, .bool (eqS x20 [99, 111, 109, 112, 105, 108, 101, 100]), .int .i64 0, .bool (eqS x22 [115, 97, 109, 101, 32, 105, 110, 116, 101, 114, 102, 97, 99, 101])]] ?_ ?_
      · refine st ?_
        simp
      refine awp_block ?_
      obtain ⟨o26, l27, h⟩ := bs h
      refine awp_inv (fun p : Nat × Nat × Nat => mkS 68 0 [(0, .str s1), (2, .mptr 0 0), (7, .sl (v9.map cS)), (8, .mptr 1 0), (9, .int .i64 ((p.2.2 : Nat) : Int))] [[.str ([] : List UInt8), .int .i64 0, .str ([] : List UInt8), .bool false, .int .i64 0, .bool false], [.str v7.1, .int .i64 v18.Op, .str v18.Unit, .bool (eqS x20 [99, 111, 109, 112, 105, 108, 101, 100]), .int .i64 ((p.2.1 : Nat) : Int), .bool (eqS x22 [115, 97, 109, 101, 32, 105, 110, 116, 101, 114, 102, 97, 99, 101])]]) (fun p => M.explain_Parse_l1 v9 p.1 p.2.1 p.2.2 = some o26) (fun p => p.1) (fuel, 0, 0) l27 (le_mkS (by simp)) ?_
      rintro ⟨k28, Code24, e25⟩ l27
      dsimp only at l27 ⊢
      cases k28 with
      | zero =>
        rw [M.explain_Parse_l1] at l27; cases l27
      | succ k29 =>
        rw [M.explain_Parse_l1] at l27
        refine awp_seq ?_
        refine cut 68 0 [(0, .str s1), (2, .mptr 0 0), (7, .sl (v9.map cS)), (8, .mptr 1 0), (9, .int .i64 ((e25 : Nat) : Int)), (43, .bool (leI ((e25 : Nat) : Int) 30))] [[.str ([] : List UInt8), .int .i64 0, .str ([] : List UInt8), .bool false, .int .i64 0, .bool false], [.str v7.1, .int .i64 v18.Op, .str v18.Unit, .bool (eqS x20 [99, 111, 109, 112, 105, 108, 101, 100]), .int .i64 ((Code24 : Nat) : Int), .bool (eqS x22 [115, 97, 109, 101, 32, 105, 110, 116, 101, 114, 102, 97, 99, 101])]] ?_ ?_
        · refine st ?_
          simp
        rcases sp l27 with ⟨g30, l27⟩ | ⟨g30, l27⟩
        · have c31 := leT g30
          refine condT rfl g30 ?_
          refine awp_skip ?_
          refine seq_eq ?_
          refine awp_seq ?_
          refine awp_block ?_
          obtain ⟨v32, q33, l27⟩ := bs l27
          obtain ⟨x34, q35, l27⟩ := bs l27
          refine cut 68 0 [(0, .str s1), (2, .mptr 0 0), (7, .sl (v9.map cS)), (8, .mptr 1 0), (9, .int .i64 ((e25 : Nat) : Int)), (51, .bool (eqS v32 x34))] [[.str ([] : List UInt8), .int .i64 0, .str ([] : List UInt8), .bool false, .int .i64 0, .bool false], [.str v7.1, .int .i64 v18.Op, .str v18.Unit, .bool (eqS x20 [99, 111, 109, 112, 105, 108, 101, 100]), .int .i64 ((Code24 : Nat) : Int), .bool (eqS x22 [115, 97, 109, 101, 32, 105, 110, 116, 101, 114, 102, 97, 99, 101])]] ?_ ?_
          · refine awp_region_draw [] mixed (n := 68) rfl (by decide) ?_
            simp [q35]
            have r39 := explain_Error_ok ((e25 : Nat) : Int) v32 q33
            try simp [q35] at r39
            refine callD r39 (by simp) rfl ?_
            simp [q35]
          rcases sp l27 with ⟨g36, l27⟩ | ⟨g36, l27⟩
          · refine condT rfl g36 ?_
            refine last 68 0 [(0, .str s1), (2, .mptr 0 0), (7, .sl (v9.map cS)), (8, .mptr 1 0), (9, .int .i64 ((e25 : Nat) : Int))] [[.str ([] : List UInt8), .int .i64 0, .str ([] : List UInt8), .bool false, .int .i64 0, .bool false], [.str v7.1, .int .i64 v18.Op, .str v18.Unit, .bool (eqS x20 [99, 111, 109, 112, 105, 108, 101, 100]), .int .i64 ((e25 : Nat) : Int), .bool (eqS x22 [115, 97, 109, 101, 32, 105, 110, 116, 101, 114, 102, 97, 99, 101])]] ?_ fun zz hs => ?_
            · refine st ?_
              simp
            refine blk_n ?_
            refine seq_le ?_ hs
            have q37 : Rng .i64 (((e25 : Nat) : Int) + 1) := by simp only [Rng, inR]; omega
            try simp at q37
            refine last 68 0 [(0, .str s1), (2, .mptr 0 0), (7, .sl (v9.map cS)), (8, .mptr 1 0), (9, .int .i64 ((e25 + 1 : Nat) : Int))] [[.str ([] : List UInt8), .int .i64 0, .str ([] : List UInt8), .bool false, .int .i64 0, .bool false], [.str v7.1, .int .i64 v18.Op, .str v18.Unit, .bool (eqS x20 [99, 111, 109, 112, 105, 108, 101, 100]), .int .i64 ((e25 : Nat) : Int), .bool (eqS x22 [115, 97, 109, 101, 32, 105, 110, 116, 101, 114, 102, 97, 99, 101])]] ?_ fun zz hs => ?_
            · refine st ?_
              simp [q37]
            exact ⟨(k29, e25, e25 + 1), hs, l27, by simp⟩
          · refine condF rfl g36 ?_
            refine awp_skip ?_
            refine blk_n ?_
            refine seq_eq ?_
            have q38 : Rng .i64 (((e25 : Nat) : Int) + 1) := by simp only [Rng, inR]; omega
            try simp at q38
            refine last 68 0 [(0, .str s1), (2, .mptr 0 0), (7, .sl (v9.map cS)), (8, .mptr 1 0), (9, .int .i64 ((e25 + 1 : Nat) : Int))] [[.str ([] : List UInt8), .int .i64 0, .str ([] : List UInt8), .bool false, .int .i64 0, .bool false], [.str v7.1, .int .i64 v18.Op, .str v18.Unit, .bool (eqS x20 [99, 111, 109, 112, 105, 108, 101, 100]), .int .i64 ((Code24 : Nat) : Int), .bool (eqS x22 [115, 97, 109, 101, 32, 105, 110, 116, 101, 114, 102, 97, 99, 101])]] ?_ fun zz hs => ?_
            · refine st ?_
              simp [q38]
            exact ⟨(k29, Code24, e25 + 1), hs, l27, by simp⟩
        · have c40 := leF g30
          refine condF rfl g30 ?_
          refine awp_exit ?_
          refine exit_seq ?_
          have q41 := Option.some.inj l27
          have q41 := q41.symm
          refine exit_seq ?_
          refine exit_blk ?_
          refine seq_le (t := mkS 68 0 [(0, .str s1), (2, .mptr 0 0), (8, .mptr 1 0)] [[.str ([] : List UInt8), .int .i64 0, .str ([] : List UInt8), .bool false, .int .i64 0, .bool false], [.str v7.1, .int .i64 v18.Op, .str v18.Unit, .bool (eqS x20 [99, 111, 109, 112, 105, 108, 101, 100]), .int .i64 o26, .bool (eqS x22 [115, 97, 109, 101, 32, 105, 110, 116, 101, 114, 102, 97, 99, 101])]]) ?_ (le_mkS (by simp [q41]))
          refine awp_seq ?_
          obtain ⟨v42, q43, h⟩ := bs h
          refine cut 68 0 [(0, .str s1), (2, .mptr 0 0), (8, .mptr 1 0), (10, .str v42.1), (11, .int .i64 v42.2)] [[.str ([] : List UInt8), .int .i64 0, .str ([] : List UInt8), .bool false, .int .i64 0, .bool false], [.str v7.1, .int .i64 v18.Op, .str v18.Unit, .bool (eqS x20 [99, 111, 109, 112, 105, 108, 101, 100]), .int .i64 o26, .bool (eqS x22 [115, 97, 109, 101, 32, 105, 110, 116, 101, 114, 102, 97, 99, 101])]] ?_ ?_
          · refine st ?_
            simp
            have r55 := explain_Step_ok fuel (Api.Step.mk v7.1 v18 (eqS x20 [99, 111, 109, 112, 105, 108, 101, 100]) o26 (eqS x22 [115, 97, 109, 101, 32, 105, 110, 116, 101, 114, 102, 97, 99, 101])) v42 q43
            try simp [] at r55
            refine callPure r55 (by simp) rfl ?_
            simp
          refine cut 68 0 [(2, .mptr 0 0), (8, .mptr 1 0), (65, .bool ((!(eqI v42.2 0)) || (!(eqS v42.1 s1))))] [[.str ([] : List UInt8), .int .i64 0, .str ([] : List UInt8), .bool false, .int .i64 0, .bool false], [.str v7.1, .int .i64 v18.Op, .str v18.Unit, .bool (eqS x20 [99, 111, 109, 112, 105, 108, 101, 100]), .int .i64 o26, .bool (eqS x22 [115, 97, 109, 101, 32, 105, 110, 116, 101, 114, 102, 97, 99, 101])]] ?_ ?_
          · rcases tf (!(eqI v42.2 0)) with g44 | g44
            · have g45 := notT g44
              have c46 := eqF g45
              refine st ?_
              simp [g44]
            · have g47 := notF g44
              have c48 := eqT g47
              refine st ?_
              simp [g44]
          rcases sp h with ⟨g49, h⟩ | ⟨g49, h⟩
          · refine condT rfl g49 ?_
            refine cut 68 0 [(2, .mptr 0 0), (3, .int .i64 3)] [[.str ([] : List UInt8), .int .i64 0, .str ([] : List UInt8), .bool false, .int .i64 0, .bool false], [.str v7.1, .int .i64 v18.Op, .str v18.Unit, .bool (eqS x20 [99, 111, 109, 112, 105, 108, 101, 100]), .int .i64 o26, .bool (eqS x22 [115, 97, 109, 101, 32, 105, 110, 116, 101, 114, 102, 97, 99, 101])]] ?_ ?_
            · refine st ?_
              simp
            refine awp_ret ?_
            refine ret_seq ?_
            obtain rfl := Option.some.inj h
            simp
          · obtain ⟨g50, g51⟩ := orF g49
            have g52 := notF g50
            have c53 := eqT g52
            have g54 := notF g51
            refine condF rfl g49 ?_
            refine awp_skip ?_
            refine seq_eq ?_
            refine cut 68 0 [(2, .mptr 0 0), (3, .int .i64 0)] [[.str v7.1, .int .i64 v18.Op, .str v18.Unit, .bool (eqS x20 [99, 111, 109, 112, 105, 108, 101, 100]), .int .i64 o26, .bool (eqS x22 [115, 97, 109, 101, 32, 105, 110, 116, 101, 114, 102, 97, 99, 101])], [.str v7.1, .int .i64 v18.Op, .str v18.Unit, .bool (eqS x20 [99, 111, 109, 112, 105, 108, 101, 100]), .int .i64 o26, .bool (eqS x22 [115, 97, 109, 101, 32, 105, 110, 116, 101, 114, 102, 97, 99, 101])]] ?_ ?_
            · refine st ?_
              simp
            refine awp_ret ?_
            obtain rfl := Option.some.inj h
            simp
end Go.Proofs.YtlhikhaailhoaaaDoor
set_option linter.unusedVariables false
set_option linter.unusedSimpArgs false
set_option maxRecDepth 100000
set_option maxHeartbeats 1000000
namespace Go.Proofs.YtlhikhaailhoaaaDoor
open Go Go.Abs
theorem law55_awake_ok (fuel : Nat) (r : Bool) (h : M.law55_awake fuel = some r) : Pure Tryd.prog 6 [] (.bool r) := by
  rw [M.law55_awake] at h
  refine pure_of_body Tryd.func6 (by rfl) (by rfl) (by simp) (by simp) (by simp) ?_
  refine cut 33 0 [] [] ?_ ?_
  · refine st ?_
    simp
  refine cut 33 0 [(1, .mptr 0 0)] [[.str [65], .int .i64 4, .str [66], .bool true, .int .i64 0, .bool true]] ?_ ?_
  · refine st ?_
    simp
  obtain ⟨v1, q2, h⟩ := bs h
  refine cut 33 0 [(1, .mptr 0 0), (2, .str v1.1), (3, .int .i64 v1.2)] [[.str [65], .int .i64 4, .str [66], .bool true, .int .i64 0, .bool true]] ?_ ?_
  · refine st ?_
    simp
    have r11 := explain_Step_ok fuel (Api.Step.mk [65] (Api.Reason.mk 4 [66]) true 0 true) v1 q2
    try simp [] at r11
    refine callPure r11 (by simp) rfl ?_
    simp
  obtain ⟨v3, q4, h⟩ := bs h
  refine cut 33 0 [(1, .mptr 0 0), (2, .str v1.1), (3, .int .i64 v1.2), (4, .mptr 1 0), (5, .int .i64 v3.2)] [[.str [65], .int .i64 4, .str [66], .bool true, .int .i64 0, .bool true], [.str v3.1.Unit, .int .i64 v3.1.Reason.Op, .str v3.1.Reason.Unit, .bool v3.1.Compiled, .int .i64 v3.1.Code, .bool v3.1.Same]] ?_ ?_
  · refine st ?_
    simp
    have r10 := explain_Parse_ok fuel v1.1 v3 q4
    try simp [] at r10
    refine callPure r10 (by simp) rfl ?_
    simp
  refine cut 33 0 [(0, .bool ((eqS v1.1 [65, 58, 32, 116, 104, 101, 32, 105, 110, 116, 101, 114, 102, 97, 99, 101, 32, 111, 102, 32, 66, 32, 104, 97, 115, 32, 99, 104, 97, 110, 103, 101, 100, 59, 32, 99, 111, 109, 112, 105, 108, 101, 100, 59, 32, 115, 97, 109, 101, 32, 105, 110, 116, 101, 114, 102, 97, 99, 101, 59, 32, 110, 111, 32, 101, 114, 114, 111, 114]) && ((eqI v1.2 0) && (((eqS v3.1.Unit [65]) && (((eqI v3.1.Reason.Op 4) && (eqS v3.1.Reason.Unit [66])) && ((eqB v3.1.Compiled true) && ((eqI v3.1.Code 0) && (eqB v3.1.Same true))))) && (eqI v3.2 0)))))] [[.str [65], .int .i64 4, .str [66], .bool true, .int .i64 0, .bool true], [.str v3.1.Unit, .int .i64 v3.1.Reason.Op, .str v3.1.Reason.Unit, .bool v3.1.Compiled, .int .i64 v3.1.Code, .bool v3.1.Same]] ?_ ?_
  · rcases tf (eqS v1.1 [65, 58, 32, 116, 104, 101, 32, 105, 110, 116, 101, 114, 102, 97, 99, 101, 32, 111, 102, 32, 66, 32, 104, 97, 115, 32, 99, 104, 97, 110, 103, 101, 100, 59, 32, 99, 111, 109, 112, 105, 108, 101, 100, 59, 32, 115, 97, 109, 101, 32, 105, 110, 116, 101, 114, 102, 97, 99, 101, 59, 32, 110, 111, 32, 101, 114, 114, 111, 114]) with g5 | g5
    · rcases tf (eqI v1.2 0) with g6 | g6
      · have c7 := eqT g6
        rcases tf ((eqS v3.1.Unit [65]) && (((eqI v3.1.Reason.Op 4) && (eqS v3.1.Reason.Unit [66])) && ((eqB v3.1.Compiled true) && ((eqI v3.1.Code 0) && (eqB v3.1.Same true))))) with g8 | g8
        · refine st ?_
          simp [g5, g6, g8]
        · refine st ?_
          simp [g5, g6, g8]
      · have c9 := eqF g6
        refine st ?_
        simp [g5, g6]
    · refine st ?_
      simp [g5]
  refine awp_ret ?_
  obtain rfl := Option.some.inj h
  simp
end Go.Proofs.YtlhikhaailhoaaaDoor
set_option linter.unusedVariables false
set_option linter.unusedSimpArgs false
set_option maxRecDepth 100000
set_option maxHeartbeats 1000000
namespace Go.Proofs.YtlhikhaailhoaaaDoor
open Go Go.Abs
theorem law55_short_ok (s1 : Api.Step) (r : Bool) (h : M.law55_short s1 = some r) : Pure Tryd.prog 11 [.agg [.str s1.Unit, .int .i64 s1.Reason.Op, .str s1.Reason.Unit, .bool s1.Compiled, .int .i64 s1.Code, .bool s1.Same]] (.bool r) := by
  rw [M.law55_short] at h
  refine pure_of_body Tryd.func11 (by rfl) (by rfl) (by simp) (by simp) (by simp) ?_
  refine cut 14 0 [(1, .mptr 0 0)] [[.str s1.Unit, .int .i64 s1.Reason.Op, .str s1.Reason.Unit, .bool s1.Compiled, .int .i64 s1.Code, .bool s1.Same]] ?_ ?_
  · refine st ?_
    simp
  refine cut 14 0 [(2, .bool ((leI (s1.Unit.length : Int) 60) && (leI (s1.Reason.Unit.length : Int) 60)))] [[.str s1.Unit, .int .i64 s1.Reason.Op, .str s1.Reason.Unit, .bool s1.Compiled, .int .i64 s1.Code, .bool s1.Same]] ?_ ?_
  · rcases tf (leI (s1.Unit.length : Int) 60) with g2 | g2
    · have c3 := leT g2
      refine factCS 0 0 rfl rfl fun f4 => ?_
      refine st ?_
      simp [g2]
    · have c5 := leF g2
      refine factCS 0 0 rfl rfl fun f6 => ?_
      refine st ?_
      simp [g2]
  refine awp_ret ?_
  obtain rfl := Option.some.inj h
  simp
end Go.Proofs.YtlhikhaailhoaaaDoor
set_option linter.unusedVariables false
set_option linter.unusedSimpArgs false
set_option maxRecDepth 100000
set_option maxHeartbeats 1000000
namespace Go.Proofs.YtlhikhaailhoaaaDoor
open Go Go.Abs
theorem law55_ExplainBack_ok (fuel : Nat) (a1 : Api.Step) (b2 : Api.Step) (r : Bool) (h : M.law55_ExplainBack fuel a1 b2 = some r) : Pure Tryd.prog 4 [.agg [.str a1.Unit, .int .i64 a1.Reason.Op, .str a1.Reason.Unit, .bool a1.Compiled, .int .i64 a1.Code, .bool a1.Same], .agg [.str b2.Unit, .int .i64 b2.Reason.Op, .str b2.Reason.Unit, .bool b2.Compiled, .int .i64 b2.Code, .bool b2.Same]] (.bool r) := by
  rw [M.law55_ExplainBack] at h
  refine pure_of_body Tryd.func4 (by rfl) (by rfl) (by simp) (by simp) (by simp) ?_
  refine cut 85 0 [(2, .mptr 0 0), (3, .mptr 1 0)] [[.str a1.Unit, .int .i64 a1.Reason.Op, .str a1.Reason.Unit, .bool a1.Compiled, .int .i64 a1.Code, .bool a1.Same], [.str b2.Unit, .int .i64 b2.Reason.Op, .str b2.Reason.Unit, .bool b2.Compiled, .int .i64 b2.Code, .bool b2.Same]] ?_ ?_
  · refine st ?_
    simp
  refine awp_seq ?_
  obtain ⟨v3, q4, h⟩ := bs h
  refine cut 85 0 [(2, .mptr 0 0), (3, .mptr 1 0), (12, .bool (!v3))] [[.str a1.Unit, .int .i64 a1.Reason.Op, .str a1.Reason.Unit, .bool a1.Compiled, .int .i64 a1.Code, .bool a1.Same], [.str b2.Unit, .int .i64 b2.Reason.Op, .str b2.Reason.Unit, .bool b2.Compiled, .int .i64 b2.Code, .bool b2.Same]] ?_ ?_
  · refine st ?_
    simp
    have r71 := law55_awake_ok fuel v3 q4
    try simp [] at r71
    refine callPure r71 (by simp) rfl ?_
    simp
  rcases sp h with ⟨g5, h⟩ | ⟨g5, h⟩
  · have g6 := notT g5
    refine condT rfl g5 ?_
    refine cut 85 0 [(4, .bool false)] [[.str a1.Unit, .int .i64 a1.Reason.Op, .str a1.Reason.Unit, .bool a1.Compiled, .int .i64 a1.Code, .bool a1.Same], [.str b2.Unit, .int .i64 b2.Reason.Op, .str b2.Reason.Unit, .bool b2.Compiled, .int .i64 b2.Code, .bool b2.Same]] ?_ ?_
    · refine st ?_
      simp
    refine awp_ret ?_
    refine ret_seq ?_
    obtain rfl := Option.some.inj h
    simp
  · have g7 := notF g5
    refine condF rfl g5 ?_
    refine awp_skip ?_
    refine seq_eq ?_
    refine awp_seq ?_
    obtain ⟨b15, q16, h⟩ := bs h
    refine cut 85 0 [(2, .mptr 0 0), (3, .mptr 1 0), (20, .bool b15)] [[.str a1.Unit, .int .i64 a1.Reason.Op, .str a1.Reason.Unit, .bool a1.Compiled, .int .i64 a1.Code, .bool a1.Same], [.str b2.Unit, .int .i64 b2.Reason.Op, .str b2.Reason.Unit, .bool b2.Compiled, .int .i64 b2.Code, .bool b2.Same]] ?_ ?_
    · obtain ⟨v8, q9, q16⟩ := bs q16
      rcases sp q16 with ⟨g10, q16⟩ | ⟨g10, q16⟩
      · have g11 := notT g10
        obtain rfl := Option.some.inj q16
        refine st ?_
        simp [g10]
        have r68 := law55_short_ok a1 v8 q9
        try simp [g10] at r68
        refine callPure r68 (by simp) rfl ?_
        simp [g10]
      · have g12 := notF g10
        obtain ⟨v13, q14, q16⟩ := bs q16
        obtain rfl := Option.some.inj q16
        refine st ?_
        simp [g10]
        have r69 := law55_short_ok a1 v8 q9
        try simp [g10] at r69
        refine callPure r69 (by simp) rfl ?_
        simp [g10]
        have r70 := law55_short_ok b2 v13 q14
        try simp [g10] at r70
        refine callPure r70 (by simp) rfl ?_
        simp [g10]
    rcases sp h with ⟨g17, h⟩ | ⟨g17, h⟩
    · refine condT rfl g17 ?_
      refine cut 85 0 [(4, .bool true)] [[.str a1.Unit, .int .i64 a1.Reason.Op, .str a1.Reason.Unit, .bool a1.Compiled, .int .i64 a1.Code, .bool a1.Same], [.str b2.Unit, .int .i64 b2.Reason.Op, .str b2.Reason.Unit, .bool b2.Compiled, .int .i64 b2.Code, .bool b2.Same]] ?_ ?_
      · refine st ?_
        simp
      refine awp_ret ?_
      refine ret_seq ?_
      obtain rfl := Option.some.inj h
      simp
    · refine condF rfl g17 ?_
      refine awp_skip ?_
      refine seq_eq ?_
      obtain ⟨v18, q19, h⟩ := bs h
      refine cut 85 0 [(2, .mptr 0 0), (3, .mptr 1 0), (5, .str v18.1), (6, .int .i64 v18.2)] [[.str a1.Unit, .int .i64 a1.Reason.Op, .str a1.Reason.Unit, .bool a1.Compiled, .int .i64 a1.Code, .bool a1.Same], [.str b2.Unit, .int .i64 b2.Reason.Op, .str b2.Reason.Unit, .bool b2.Compiled, .int .i64 b2.Code, .bool b2.Same]] ?_ ?_
      · refine st ?_
        simp
        have r67 := explain_Step_ok fuel a1 v18 q19
        try simp [] at r67
        refine callPure r67 (by simp) rfl ?_
        simp
      obtain ⟨v20, q21, h⟩ := bs h
      refine cut 85 0 [(2, .mptr 0 0), (3, .mptr 1 0), (5, .str v18.1), (6, .int .i64 v18.2), (7, .str v20.1), (8, .int .i64 v20.2)] [[.str a1.Unit, .int .i64 a1.Reason.Op, .str a1.Reason.Unit, .bool a1.Compiled, .int .i64 a1.Code, .bool a1.Same], [.str b2.Unit, .int .i64 b2.Reason.Op, .str b2.Reason.Unit, .bool b2.Compiled, .int .i64 b2.Code, .bool b2.Same]] ?_ ?_
      · refine st ?_
        simp
        have r66 := explain_Step_ok fuel b2 v20 q21
        try simp [] at r66
        refine callPure r66 (by simp) rfl ?_
        simp
      refine awp_seq ?_
      refine cut 85 0 [(2, .mptr 0 0), (3, .mptr 1 0), (5, .str v18.1), (6, .int .i64 v18.2), (7, .str v20.1), (8, .int .i64 v20.2), (36, .bool ((!(eqI v18.2 0)) || (!(eqI v20.2 0))))] [[.str a1.Unit, .int .i64 a1.Reason.Op, .str a1.Reason.Unit, .bool a1.Compiled, .int .i64 a1.Code, .bool a1.Same], [.str b2.Unit, .int .i64 b2.Reason.Op, .str b2.Reason.Unit, .bool b2.Compiled, .int .i64 b2.Code, .bool b2.Same]] ?_ ?_
      · rcases tf (!(eqI v18.2 0)) with g22 | g22
        · have g23 := notT g22
          have c24 := eqF g23
          refine st ?_
          simp [g22]
        · have g25 := notF g22
          have c26 := eqT g25
          refine st ?_
          simp [g22]
      rcases sp h with ⟨g27, h⟩ | ⟨g27, h⟩
      · refine condT rfl g27 ?_
        refine cut 85 0 [(4, .bool (if eqI v18.2 0 then (eqI v20.2 0) || ((eqI v20.2 1) && (eqS v20.1 ([] : List UInt8))) else (eqI v18.2 1) && ((eqS v18.1 ([] : List UInt8)) && ((eqI v20.2 0) || ((eqI v20.2 1) && (eqS v20.1 ([] : List UInt8)))))))] [[.str a1.Unit, .int .i64 a1.Reason.Op, .str a1.Reason.Unit, .bool a1.Compiled, .int .i64 a1.Code, .bool a1.Same], [.str b2.Unit, .int .i64 b2.Reason.Op, .str b2.Reason.Unit, .bool b2.Compiled, .int .i64 b2.Code, .bool b2.Same]] ?_ ?_
        · rcases tf (eqI v18.2 0) with g28 | g28
          · have c29 := eqT g28
            rcases tf (eqI v20.2 0) with g30 | g30
            · have c31 := eqT g30
              refine st ?_
              simp [g28, g30]
            · have c32 := eqF g30
              rcases tf (eqI v20.2 1) with g33 | g33
              · have c34 := eqT g33
                refine st ?_
                simp [g28, g30, g33]
              · have c35 := eqF g33
                refine st ?_
                simp [g28, g30, g33]
          · have c36 := eqF g28
            rcases tf (eqI v18.2 1) with g37 | g37
            · have c38 := eqT g37
              rcases tf (eqS v18.1 ([] : List UInt8)) with g39 | g39
              · rcases tf (eqI v20.2 0) with g40 | g40
                · have c41 := eqT g40
                  refine st ?_
                  simp [g28, g37, g39, g40]
                · have c42 := eqF g40
                  rcases tf (eqI v20.2 1) with g43 | g43
                  · have c44 := eqT g43
                    refine st ?_
                    simp [g28, g37, g39, g40, g43]
                  · have c45 := eqF g43
                    refine st ?_
                    simp [g28, g37, g39, g40, g43]
              · refine st ?_
                simp [g28, g37, g39]
            · have c46 := eqF g37
              refine st ?_
              simp [g28, g37]
        refine awp_ret ?_
        refine ret_seq ?_
        obtain rfl := Option.some.inj h
        simp
      · obtain ⟨g47, g48⟩ := orF g27
        have g49 := notF g47
        have c50 := eqT g49
        have g51 := notF g48
        have c52 := eqT g51
        refine condF rfl g27 ?_
        refine awp_skip ?_
        refine seq_eq ?_
        obtain ⟨v53, q54, h⟩ := bs h
        refine cut 85 0 [(2, .mptr 0 0), (3, .mptr 1 0), (5, .str v18.1), (7, .str v20.1), (9, .mptr 2 0), (10, .int .i64 v53.2)] [[.str a1.Unit, .int .i64 a1.Reason.Op, .str a1.Reason.Unit, .bool a1.Compiled, .int .i64 a1.Code, .bool a1.Same], [.str b2.Unit, .int .i64 b2.Reason.Op, .str b2.Reason.Unit, .bool b2.Compiled, .int .i64 b2.Code, .bool b2.Same], [.str v53.1.Unit, .int .i64 v53.1.Reason.Op, .str v53.1.Reason.Unit, .bool v53.1.Compiled, .int .i64 v53.1.Code, .bool v53.1.Same]] ?_ ?_
        · refine st ?_
          simp
          have r65 := explain_Parse_ok fuel v18.1 v53 q54
          try simp [] at r65
          refine callPure r65 (by simp) rfl ?_
          simp
        obtain ⟨b62, q63, h⟩ := bs h
        refine cut 85 0 [(4, .bool b62)] [[.str a1.Unit, .int .i64 a1.Reason.Op, .str a1.Reason.Unit, .bool a1.Compiled, .int .i64 a1.Code, .bool a1.Same], [.str b2.Unit, .int .i64 b2.Reason.Op, .str b2.Reason.Unit, .bool b2.Compiled, .int .i64 b2.Code, .bool b2.Same], [.str v53.1.Unit, .int .i64 v53.1.Reason.Op, .str v53.1.Reason.Unit, .bool v53.1.Compiled, .int .i64 v53.1.Code, .bool v53.1.Same]] ?_ ?_
        · rcases sp q63 with ⟨g55, q63⟩ | ⟨g55, q63⟩
          · have c56 := eqT g55
            rcases sp q63 with ⟨g57, q63⟩ | ⟨g57, q63⟩
            · rcases sp q63 with ⟨g58, q63⟩ | ⟨g58, q63⟩
              · obtain ⟨v59, q60, q63⟩ := bs q63
                obtain rfl := Option.some.inj q63
                refine st ?_
                simp [g55, g57, g58]
                have r64 := strings_Contains_ok v18.1 [10] v59 q60
                try simp [g55, g57, g58] at r64
                refine callPure r64 (by simp) rfl ?_
                simp [g55, g57, g58]
              · obtain rfl := Option.some.inj q63
                refine st ?_
                simp [g55, g57, g58]
            · obtain rfl := Option.some.inj q63
              refine st ?_
              simp [g55, g57]
          · have c61 := eqF g55
            obtain rfl := Option.some.inj q63
            refine st ?_
            simp [g55]
        refine awp_ret ?_
        obtain rfl := Option.some.inj h
        simp
end Go.Proofs.YtlhikhaailhoaaaDoor
