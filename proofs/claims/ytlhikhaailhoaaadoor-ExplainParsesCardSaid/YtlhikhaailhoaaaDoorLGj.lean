/- For every input the law ExplainParses returns true. Part 10 of 14. No condition. -/
import Derived.Test.YtlhikhaailhoaaaDoorLGi
import Derived.Shelf.Strings.Builder1
import Derived.Shelf.Strings.Builder2
import Derived.Shelf.Strings.OnBuilder
import Derived.Shelf.Strings.Search1
import Derived.Shelf.Strings.Search2
import Derived.Shelf.Strings.Search3
import Derived.Shelf.Strings.Cut
import Derived.Shelf.Strings.Count
import Derived.Shelf.LaysM
import Derived.Shelf.Strings.Shaped
import Derived.Shelf.Strings.Split
import Derived.Shelf.Strings.SplitShaped
import Derived.Shelf.Unicode.DecodeSlow
set_option linter.unusedVariables false
namespace Go.Proofs
open Go.Shelf
def Tryd.lays156_ren : Go.Shelf.Ren := ⟨fun | 156 => 28 | 165 => 42 | 166 => 32 | 169 => 34 | 240 => 44 | 241 => 52 | 276 => 57 | 277 => 65 | n => n, fun | 31 => 49 | 9 => 9 | 3 => 3 | 4 => 4 | 0 => 0 | 20 => 20 | 72 => 61 | 76 => 64 | 70 => 58 | 37 => 59 | 75 => 63 | 127 => 73 | 164 => 81 | 5 => 5 | 80 => 67 | n => n, fun | n => n⟩
theorem Tryd.lays156 : Go.Proofs.Lays.n156 Tryd.prog Tryd.lays156_ren := {
  mixed := by kernel_rfl
  f156 := Tryd.func28.trans (congrArg some (by kernel_rfl))
  f165 := Tryd.func42.trans (congrArg some (by kernel_rfl))
  f166 := Tryd.func32.trans (congrArg some (by kernel_rfl))
  f169 := Tryd.func34.trans (congrArg some (by kernel_rfl))
  f240 := Tryd.func44.trans (congrArg some (by kernel_rfl))
  f241 := Tryd.func52.trans (congrArg some (by kernel_rfl))
  f276 := Tryd.func57.trans (congrArg some (by kernel_rfl))
  f277 := Tryd.func65.trans (congrArg some (by kernel_rfl))
  t0 := Tryd.underlying0
  a0 := Tryd.isAgg0
  z0 := Tryd.sizeOf0
  v0 := Tryd.zeroValue0
  t3 := Tryd.underlying3
  a3 := Tryd.isAgg3
  z3 := Tryd.sizeOf3
  v3 := Tryd.zeroValue3
  t4 := Tryd.underlying4
  a4 := Tryd.isAgg4
  z4 := Tryd.sizeOf4
  v4 := Tryd.zeroValue4
  t9 := Tryd.underlying9
  a9 := Tryd.isAgg9
  z9 := Tryd.sizeOf9
  v9 := Tryd.zeroValue9
  t20 := Tryd.underlying20
  a20 := Tryd.isAgg20
  z20 := Tryd.sizeOf20
  v20 := Tryd.zeroValue20
  t31 := Tryd.underlying49
  a31 := Tryd.isAgg49
  z31 := Tryd.sizeOf49
  v31 := Tryd.zeroValue49
  t37 := Tryd.underlying59
  a37 := Tryd.isAgg59
  z37 := Tryd.sizeOf59
  v37 := Tryd.zeroValue59
  t70 := Tryd.underlying58
  a70 := Tryd.isAgg58
  z70 := Tryd.sizeOf58
  v70 := Tryd.zeroValue58
  t72 := Tryd.underlying61
  a72 := Tryd.isAgg61
  z72 := Tryd.sizeOf61
  v72 := Tryd.zeroValue61
  t75 := Tryd.underlying63
  a75 := Tryd.isAgg63
  z75 := Tryd.sizeOf63
  v75 := Tryd.zeroValue63
  t76 := Tryd.underlying64
  a76 := Tryd.isAgg64
  z76 := Tryd.sizeOf64
  v76 := Tryd.zeroValue64
  t127 := Tryd.underlying73
  a127 := Tryd.isAgg73
  z127 := Tryd.sizeOf73
  v127 := Tryd.zeroValue73
  t164 := Tryd.underlying81
  a164 := Tryd.isAgg81
  z164 := Tryd.sizeOf81
  v164 := Tryd.zeroValue81 }
theorem Tryd.Builder_Extra_156 : Builder.Extra Tryd.prog Tryd.lays156_ren := {
  sizeBuilder := by kernel_rfl
  liesBuilder := by kernel_rfl
  t5 := Tryd.underlying5
  a5 := Tryd.isAgg5
  z5 := Tryd.sizeOf5
  v5 := Tryd.zeroValue5
  infoByte := by kernel_rfl
  cellsByte := by kernel_rfl
  sizeByte := by kernel_rfl
  neB5 := by decide }
open Go.RowKit in
theorem Tryd.strings_Join_none (a : Option Addr) (c : Nat) (sep : ByteArray) (w : World) :
    Calls Tryd.prog 28 #[.slice a 0 c, .string sep] w fun e w' => e = .returned (.string ⟨#[]⟩) ∧ w' = w := Any.strings_Join_none Tryd.lays156 Tryd.Builder_Extra_156 a c sep w
open Go.RowKit in
theorem Tryd.strings_Join (bk o c : Nat) (xs : List ByteArray) (sep : ByteArray) (w : World) (hcells : ∀ (j : Nat) x, xs[j]? = some x → w.cell? ⟨bk, o + j, none⟩ = some (.string x)) (hbk : bk < w.heap.size) (hN : xs.length ≤ 140737488355328) (hcap : xs.length ≤ c) (hlen : (Lib.join (xs.map (·.data.toList)) sep.data.toList).length ≤ 140737488355328) :
    Calls Tryd.prog 28 #[.slice (some ⟨bk, o, none⟩) xs.length c, .string sep] w fun e w' => e = .returned (.string ⟨(Lib.join (xs.map (·.data.toList)) sep.data.toList).toArray⟩) ∧ Below w.heap.size w w' := Any.strings_Join Tryd.lays156 Tryd.Builder_Extra_156 bk o c xs sep w hcells hbk hN hcap hlen
def Tryd.lays144_ren : Go.Shelf.Ren := ⟨fun | 144 => 13 | 143 => 29 | 219 => 43 | 217 => 53 | 225 => 54 | 224 => 55 | 267 => 56 | 266 => 66 | 314 => 67 | n => n, fun | 9 => 9 | 4 => 4 | 3 => 3 | 5 => 5 | 46 => 80 | 146 => 89 | 51 => 88 | n => n, fun | 1 => 0 | n => n⟩
theorem Tryd.lays144 : Go.Proofs.Lays.n144 Tryd.prog Tryd.lays144_ren := {
  mixed := by kernel_rfl
  f143 := Tryd.func29.trans (congrArg some (by kernel_rfl))
  f144 := Tryd.func13.trans (congrArg some (by kernel_rfl))
  f217 := Tryd.func53.trans (congrArg some (by kernel_rfl))
  f219 := Tryd.func43.trans (congrArg some (by kernel_rfl))
  f224 := Tryd.func55.trans (congrArg some (by kernel_rfl))
  f225 := Tryd.func54.trans (congrArg some (by kernel_rfl))
  f266 := Tryd.func66.trans (congrArg some (by kernel_rfl))
  f267 := Tryd.func56.trans (congrArg some (by kernel_rfl))
  f314 := Tryd.func67.trans (congrArg some (by kernel_rfl))
  t3 := Tryd.underlying3
  a3 := Tryd.isAgg3
  z3 := Tryd.sizeOf3
  v3 := Tryd.zeroValue3
  t4 := Tryd.underlying4
  a4 := Tryd.isAgg4
  z4 := Tryd.sizeOf4
  v4 := Tryd.zeroValue4
  t5 := Tryd.underlying5
  a5 := Tryd.isAgg5
  z5 := Tryd.sizeOf5
  v5 := Tryd.zeroValue5
  t9 := Tryd.underlying9
  a9 := Tryd.isAgg9
  z9 := Tryd.sizeOf9
  v9 := Tryd.zeroValue9
  t46 := Tryd.underlying80
  a46 := Tryd.isAgg80
  z46 := Tryd.sizeOf80
  v46 := Tryd.zeroValue80
  t51 := Tryd.underlying88
  a51 := Tryd.isAgg88
  z51 := Tryd.sizeOf88
  v51 := Tryd.zeroValue88
  t146 := Tryd.underlying89
  a146 := Tryd.isAgg89
  z146 := Tryd.sizeOf89
  v146 := Tryd.zeroValue89
  g1 := by kernel_rfl }
open Go.RowKit Go.Lib in
theorem Tryd.strings_Contains_one (s : ByteArray) (c : UInt8) (w : World) :
    Calls Tryd.prog 13 #[.string s, .string ⟨#[c]⟩] w fun e w' => e = .returned (.bool (decide (0 ≤ Lib.indexByte s.data.toList c))) ∧ w' = w := Any.strings_Contains_one Tryd.lays144 s c w
def Tryd.lays145_ren : Go.Shelf.Ren := ⟨fun | 145 => 20 | 220 => 37 | 219 => 43 | 217 => 53 | 225 => 54 | 224 => 55 | 267 => 56 | 266 => 66 | 314 => 67 | n => n, fun | 9 => 9 | 4 => 4 | 59 => 47 | 3 => 3 | 5 => 5 | 46 => 80 | 146 => 89 | 51 => 88 | n => n, fun | 1 => 0 | n => n⟩
theorem Tryd.lays145 : Go.Proofs.Lays.n145 Tryd.prog Tryd.lays145_ren := {
  mixed := by kernel_rfl
  f145 := Tryd.func20.trans (congrArg some (by kernel_rfl))
  f217 := Tryd.func53.trans (congrArg some (by kernel_rfl))
  f219 := Tryd.func43.trans (congrArg some (by kernel_rfl))
  f220 := Tryd.func37.trans (congrArg some (by kernel_rfl))
  f224 := Tryd.func55.trans (congrArg some (by kernel_rfl))
  f225 := Tryd.func54.trans (congrArg some (by kernel_rfl))
  f266 := Tryd.func66.trans (congrArg some (by kernel_rfl))
  f267 := Tryd.func56.trans (congrArg some (by kernel_rfl))
  f314 := Tryd.func67.trans (congrArg some (by kernel_rfl))
  t3 := Tryd.underlying3
  a3 := Tryd.isAgg3
  z3 := Tryd.sizeOf3
  v3 := Tryd.zeroValue3
  t4 := Tryd.underlying4
  a4 := Tryd.isAgg4
  z4 := Tryd.sizeOf4
  v4 := Tryd.zeroValue4
  t5 := Tryd.underlying5
  a5 := Tryd.isAgg5
  z5 := Tryd.sizeOf5
  v5 := Tryd.zeroValue5
  t9 := Tryd.underlying9
  a9 := Tryd.isAgg9
  z9 := Tryd.sizeOf9
  v9 := Tryd.zeroValue9
  t46 := Tryd.underlying80
  a46 := Tryd.isAgg80
  z46 := Tryd.sizeOf80
  v46 := Tryd.zeroValue80
  t51 := Tryd.underlying88
  a51 := Tryd.isAgg88
  z51 := Tryd.sizeOf88
  v51 := Tryd.zeroValue88
  t59 := Tryd.underlying47
  a59 := Tryd.isAgg47
  z59 := Tryd.sizeOf47
  v59 := Tryd.zeroValue47
  t146 := Tryd.underlying89
  a146 := Tryd.isAgg89
  z146 := Tryd.sizeOf89
  v146 := Tryd.zeroValue89
  g1 := by kernel_rfl }
open Go.RowKit Go.Lib in
theorem Tryd.strings_Cut (s sep : ByteArray) (m : Int) (w : World) (hs : s.size < 4294967281) (hm : w.cell? ⟨0, 0, none⟩ = some (.int .i64 m)) :
    Calls Tryd.prog 20 #[.string s, .string sep] w fun e w' => e = .returned (.tuple #[.string ⟨(Lib.cut s.data.toList sep.data.toList).1.toArray⟩, .string ⟨(Lib.cut s.data.toList sep.data.toList).2.1.toArray⟩, .bool (Lib.cut s.data.toList sep.data.toList).2.2]) ∧ ∃ n, w' = w.drewN n := Any.strings_Cut Tryd.lays145 s sep m w hs hm
def Tryd.lays146_ren : Go.Shelf.Ren := ⟨fun | 146 => 21 | 221 => 38 | 268 => 47 | 138 => 48 | 143 => 29 | 195 => 59 | 197 => 60 | 218 => 61 | 219 => 43 | 260 => 69 | 217 => 53 | 225 => 54 | 224 => 55 | 267 => 56 | 266 => 66 | 314 => 67 | n => n, fun | 9 => 9 | 31 => 49 | 3 => 3 | 4 => 4 | 0 => 0 | 105 => 84 | 21 => 21 | 5 => 5 | 46 => 80 | 119 => 91 | 139 => 94 | 138 => 93 | 146 => 89 | 51 => 88 | n => n, fun | 1 => 0 | 3 => 1 | 4 => 2 | n => n⟩
theorem Tryd.lays146 : Go.Proofs.Lays.n146 Tryd.prog Tryd.lays146_ren := {
  mixed := by kernel_rfl
  f138 := Tryd.func48.trans (congrArg some (by kernel_rfl))
  f143 := Tryd.func29.trans (congrArg some (by kernel_rfl))
  f146 := Tryd.func21.trans (congrArg some (by kernel_rfl))
  f195 := Tryd.func59.trans (congrArg some (by kernel_rfl))
  f197 := Tryd.func60.trans (congrArg some (by kernel_rfl))
  f217 := Tryd.func53.trans (congrArg some (by kernel_rfl))
  f218 := Tryd.func61.trans (congrArg some (by kernel_rfl))
  f219 := Tryd.func43.trans (congrArg some (by kernel_rfl))
  f221 := Tryd.func38.trans (congrArg some (by kernel_rfl))
  f224 := Tryd.func55.trans (congrArg some (by kernel_rfl))
  f225 := Tryd.func54.trans (congrArg some (by kernel_rfl))
  f260 := Tryd.func69.trans (congrArg some (by kernel_rfl))
  f266 := Tryd.func66.trans (congrArg some (by kernel_rfl))
  f267 := Tryd.func56.trans (congrArg some (by kernel_rfl))
  f268 := Tryd.func47.trans (congrArg some (by kernel_rfl))
  f314 := Tryd.func67.trans (congrArg some (by kernel_rfl))
  t0 := Tryd.underlying0
  a0 := Tryd.isAgg0
  z0 := Tryd.sizeOf0
  v0 := Tryd.zeroValue0
  t3 := Tryd.underlying3
  a3 := Tryd.isAgg3
  z3 := Tryd.sizeOf3
  v3 := Tryd.zeroValue3
  t4 := Tryd.underlying4
  a4 := Tryd.isAgg4
  z4 := Tryd.sizeOf4
  v4 := Tryd.zeroValue4
  t5 := Tryd.underlying5
  a5 := Tryd.isAgg5
  z5 := Tryd.sizeOf5
  v5 := Tryd.zeroValue5
  t9 := Tryd.underlying9
  a9 := Tryd.isAgg9
  z9 := Tryd.sizeOf9
  v9 := Tryd.zeroValue9
  t21 := Tryd.underlying21
  a21 := Tryd.isAgg21
  z21 := Tryd.sizeOf21
  v21 := Tryd.zeroValue21
  t31 := Tryd.underlying49
  a31 := Tryd.isAgg49
  z31 := Tryd.sizeOf49
  v31 := Tryd.zeroValue49
  t46 := Tryd.underlying80
  a46 := Tryd.isAgg80
  z46 := Tryd.sizeOf80
  v46 := Tryd.zeroValue80
  t51 := Tryd.underlying88
  a51 := Tryd.isAgg88
  z51 := Tryd.sizeOf88
  v51 := Tryd.zeroValue88
  t105 := Tryd.underlying84
  a105 := Tryd.isAgg84
  z105 := Tryd.sizeOf84
  v105 := Tryd.zeroValue84
  t119 := Tryd.underlying91
  a119 := Tryd.isAgg91
  z119 := Tryd.sizeOf91
  t138 := Tryd.underlying93
  a138 := Tryd.isAgg93
  z138 := Tryd.sizeOf93
  v138 := Tryd.zeroValue93
  t139 := Tryd.underlying94
  a139 := Tryd.isAgg94
  z139 := Tryd.sizeOf94
  v139 := Tryd.zeroValue94
  t146 := Tryd.underlying89
  a146 := Tryd.isAgg89
  z146 := Tryd.sizeOf89
  v146 := Tryd.zeroValue89
  g1 := by kernel_rfl
  g3 := by kernel_rfl
  g4 := by kernel_rfl }
open Go.RowKit Go.Lib in
theorem Tryd.strings_Split (s sep : ByteArray) (m : Int) (w : World) (hs : s.size < 4294967281) (hm : w.cell? ⟨0, 0, none⟩ = some (.int .i64 m)) (h1 : 1 ≤ sep.size) :
    Calls Tryd.prog 21 #[.string s, .string sep] w fun e w' =>
      e = .returned (.slice (some ⟨w.heap.size, 0, none⟩) (Lib.countB s sep + 1) (Lib.countB s sep + 1)) ∧ w' = w.alloc (.cells ((Lib.splitB sep 0 (Lib.countB s sep) s).map Value.string).toArray 9) := Any.strings_Split Tryd.lays146 (by kernel_rfl) s sep m w hs hm h1
end Go.Proofs
set_option linter.unusedVariables false
set_option linter.unusedSimpArgs false
set_option maxRecDepth 100000
namespace Go.Proofs.YtlhikhaailhoaaaDoor
open Go Go.Abs Go.RowKit
theorem strings_Contains_ok (s t : List UInt8) (r : Bool) (h : M.strings_Contains s t = some r) : Pure Tryd.prog 13 [.str s, .str t] (.bool r) := by
  refine pure_of_calls ⟨Tryd.f13, Tryd.func13, by rfl, by rfl⟩ fun imm w vals ha => ?_
  obtain ⟨a, b, rfl, h1, h2⟩ := vals2 ha
  unfold M.strings_Contains at h
  split at h
  · rename_i c
    cases h
    cases h1 with
    | str s l hs hb =>
      cases h2 with
      | str t l2 ht _ =>
        have := bytes_of ht; subst this
        refine (Tryd.strings_Contains_one s c w).mono fun e w' he => ?_
        obtain ⟨rfl, rfl⟩ := he
        refine ⟨_, rfl, ?_, rfl⟩
        rw [hs]
        exact .bool _
  · cases h
theorem strings_Join_ok (l : List (List UInt8)) (s : List UInt8) (r : List UInt8) (h : M.strings_Join l s = some r) : Pure Tryd.prog 28 [.sl (l.map cS), .str s] (.str r) := by
  refine pure_of_below ⟨Tryd.f28, Tryd.func28, by rfl, by rfl⟩ fun imm w vals him hgl ha => ?_
  obtain ⟨a, b, rfl, h1, h2⟩ := vals2 ha
  unfold M.strings_Join at h
  split at h
  case isFalse => cases h
  rename_i hlen
  cases h
  cases h2 with
  | str sb _ hs hb =>
    have := bytes_of hs; subst this
    cases l with
    | nil =>
      have hv : ∃ ad c, a = .slice ad 0 c := by
        cases h1 with
        | sl0 => exact ⟨none, 0, rfl⟩
        | sl ec L ad n cap vs hn hc hbd he h r => exact ⟨some ad, cap, by rw [hn]; rfl⟩
      obtain ⟨ad, c, rfl⟩ := hv
      refine (Tryd.strings_Join_none ad c _ w).mono fun e w' he => ?_
      obtain ⟨rfl, rfl⟩ := he
      refine ⟨_, rfl, .str _ _ ?_ (by simp [Lib.join_nil]), Below.refl _ _⟩
      rw [Lib.join_nil]
    | cons x l =>
      cases h1 with
      | sl ec L ad n cap vs hn hc hbd he hh rr =>
        have hec : ec = 1 := (he 0 _ rfl).symm
        subst hec
        have h0 := him _ _ (hh 0 _ rfl 0 _ rfl)
        obtain ⟨bk, o, sp⟩ := ad
        have hlt := World.block_lt_of_cell? _ _ h0
        rw [add_block] at hlt
        have hsp : sp = none := by
          cases sp with
          | none => rfl
          | some q =>
            have : ((⟨bk, o, some q⟩ : Addr).add (0 * 1 + 0)) = ⟨bk, o, some q⟩ := by simp [Addr.add]
            rw [this] at h0
            simp only [World.cell?, Option.isSome_some, if_true] at h0
            split at h0 <;> cases h0
        subst hsp
        obtain ⟨xs, h1, h2, h3⟩ : ∃ xs : List ByteArray, xs.map (·.data.toList) = x :: l ∧ xs.length = n ∧ ∀ (j : Nat) y, xs[j]? = some y → ∃ z, (x :: l)[j]? = some z ∧ (⟨z.toArray⟩ : ByteArray) = y :=
          ⟨(x :: l).map fun b => (⟨b.toArray⟩ : ByteArray), map_bytes _, by rw [hn]; simp, fun j y hy => (by obtain ⟨z, hz, e⟩ := getElem?_map_some hy; exact ⟨z, hz, e.symm⟩)⟩
        rw [← h1] at hlen
        have hcap : xs.length ≤ cap := by rw [h2]; exact hc
        have hN : xs.length ≤ 140737488355328 := by have := hlen.1; rw [List.length_map] at this; exact this
        have hcells : ∀ (j : Nat) y, xs[j]? = some y → w.cell? ⟨bk, o + j, none⟩ = some (.string y) := by
          intro j y hy
          obtain ⟨z, hz, rfl⟩ := h3 j y hy
          have hm : ((x :: l).map cS)[j]? = some (cS z) := by rw [List.getElem?_map, hz]; rfl
          have e1 := him _ _ (hh j _ hm 0 _ rfl)
          have e2 := rr j _ hm 0 (.str z) rfl
          generalize vs j 0 = u at e1 e2
          cases e2 with
          | str sz _ hsz _ =>
            have := bytes_of hsz; subst this
            have : ((⟨bk, o, none⟩ : Addr).add (j * 1 + 0)) = ⟨bk, o + j, none⟩ := by
              unfold Addr.add
              split
              · rename_i h0; have : j = 0 := by omega
                subst this; rfl
              · simp
            rw [this] at e1
            exact e1
        have hjl : (Lib.join (xs.map (·.data.toList)) (⟨s.toArray⟩ : ByteArray).data.toList).length ≤ 140737488355328 := hlen.2
        have key := Tryd.strings_Join bk o cap xs ⟨s.toArray⟩ w hcells hlt hN hcap hjl
        rw [h2] at key
        refine key.mono fun e w' he => ?_
        obtain ⟨rfl, hbel⟩ := he
        rw [h1] at hlen
        refine ⟨_, rfl, .str _ _ (by rw [h1]) (Nat.le_trans hlen.2 (by decide)), hbel⟩
end Go.Proofs.YtlhikhaailhoaaaDoor
set_option linter.unusedVariables false
set_option linter.unusedSimpArgs false
set_option maxRecDepth 100000
namespace Go.Proofs.YtlhikhaailhoaaaDoor
open Go Go.Abs Go.RowKit
theorem strings_Split_ok (s0 t0 : List UInt8) (r : List (List UInt8)) (h : M.strings_Split s0 t0 = some r) : Pure Tryd.prog 21 [.str s0, .str t0] (.sl (r.map cS)) := by
  refine ⟨⟨Tryd.f21, Tryd.func21, by rfl, by rfl⟩, fun imm w vals him hgl ha => ?_⟩
  obtain ⟨a, b, rfl, h1, h2⟩ := vals2 ha
  unfold M.strings_Split at h
  split at h
  case isFalse => cases h
  rename_i hlen
  cases h
  cases h1 with
  | str s l hs hb =>
    cases h2 with
    | str t l2 ht hb2 =>
      obtain ⟨m, hm⟩ := hgl 0 (by simp [gl])
      have z1 : s.size = s0.length := by rw [← hs]; exact Array.length_toList.symm
      have z2 : t.size = t0.length := by rw [← ht]; exact Array.length_toList.symm
      refine (Tryd.strings_Split s t m w (by omega) (him _ _ hm) (by omega)).mono fun e w' he => ?_
      obtain ⟨rfl, rfl⟩ := he
      have hle := Lib.countB_le t (by omega) s.size s (Nat.le_refl _)
      have hL := Lib.splitB_all t (by omega) 0 _ s rfl
      have hD : (Lib.splitB t 0 (Lib.countB s t) s).map (·.data.toList) = Lib.split s0 t0 := by
        rw [Lib.splitB_data, hs, ht]
        show Lib.splitK t0 0 (Lib.count s.data.toList t.data.toList) s0 = Lib.splitK t0 0 (Lib.count s0 t0) s0
        rw [hs, ht]
      generalize Lib.splitB t 0 (Lib.countB s t) s = ps at hL hD ⊢
      have hlt : ∀ x v, imm x = some v → x.block < w.heap.size := fun x v hx => World.block_lt_of_cell? _ _ (him x v hx)
      refine ⟨fun x => if x.block = w.heap.size then (w.alloc (.cells (ps.map Value.string).toArray 9)).cell? x else imm x, _, rfl, ?_, fun x v hx => ?_, fun x v hx => ?_, Below.alloc (Below.refl _ _) (Nat.le_refl _) _, fun x v hx => ?_⟩
      · refine .sl 1 _ ⟨w.heap.size, 0, none⟩ _ _ (fun i _ => Value.string (ps.getD i default)) ?_ (Nat.le_refl _) (by omega) ?_ ?_ ?_
        · rw [← hD]; simpa using hL.symm
        · intro i e he
          obtain ⟨z, _, rfl⟩ := getElem?_map_some he
          rfl
        · intro i e he j x hx
          obtain ⟨z, hz, rfl⟩ := getElem?_map_some he
          rw [← hD] at hz
          obtain ⟨p, hp, rfl⟩ := getElem?_map_some hz
          have hj : j = 0 := by
            rcases j with _ | j
            · rfl
            · simp [cS] at hx
          subst hj
          have hadd : ((⟨w.heap.size, 0, none⟩ : Addr).add (i * 1 + 0)) = ⟨w.heap.size, i, none⟩ := by
            unfold Addr.add
            split
            · rename_i h0; have : i = 0 := by omega
              subst this; rfl
            · simp
          rw [hadd]
          simp only [if_true]
          rw [World.cell?_alloc_new]
          simp [hp, List.getD_eq_getElem?_getD]
        · intro i e he j x hx
          obtain ⟨z, hz, rfl⟩ := getElem?_map_some he
          have hzl : z.length ≤ s0.length := splitK_short t0 _ s0 z (List.mem_of_getElem? hz)
          rw [← hD] at hz
          obtain ⟨p, hp, rfl⟩ := getElem?_map_some hz
          have hx' : x = .str p.data.toList := by
            rcases j with _ | j
            · simpa [cS] using hx.symm
            · simp [cS] at hx
          subst hx'
          have : ps.getD i default = p := by simp [List.getD_eq_getElem?_getD, hp]
          rw [this]
          exact .str _ _ rfl (by omega)
      · have := hlt x v hx
        show (if x.block = w.heap.size then _ else imm x) = some v
        rw [if_neg (by omega)]; exact hx
      · dsimp only at hx
        split at hx
        · exact hx
        · rw [World.cell?_alloc_lt _ _ _ (hlt x v hx)]; exact him x v hx
      · dsimp only at hx
        split at hx
        · rename_i hb; exact .inr (by omega)
        · exact .inl hx
theorem strings_Cut_ok (s0 t0 : List UInt8) (r : List UInt8 × List UInt8 × Bool) (h : M.strings_Cut s0 t0 = some r) : Pure Tryd.prog 20 [.str s0, .str t0] (.tup [.str r.1, .str r.2.1, .bool r.2.2]) := by
  refine pure_of_below ⟨Tryd.f20, Tryd.func20, by rfl, by rfl⟩ fun imm w vals him hgl ha => ?_
  obtain ⟨a, b, rfl, h1, h2⟩ := vals2 ha
  unfold M.strings_Cut at h
  split at h
  case isFalse => cases h
  rename_i hlen
  cases h
  cases h1 with
  | str s l hs hb =>
    cases h2 with
    | str t l2 ht hb2 =>
      obtain ⟨m, hm⟩ := hgl 0 (by simp [gl])
      have z1 : s.size = s0.length := by rw [← hs]; exact Array.length_toList.symm
      refine (Tryd.strings_Cut s t m w (by omega) (him _ _ hm)).mono fun e w' he => ?_
      obtain ⟨rfl, n, rfl⟩ := he
      have hc : (Lib.cut s0 t0).1.length ≤ s0.length ∧ (Lib.cut s0 t0).2.1.length ≤ s0.length := by
        unfold Lib.cut
        split
        · refine ⟨?_, ?_⟩
          · show (s0.take _).length ≤ _; rw [List.length_take]; omega
          · show (s0.drop _).length ≤ _; rw [List.length_drop]; omega
        · exact ⟨Nat.le_refl _, Nat.zero_le _⟩
      rw [hs, ht]
      refine ⟨_, rfl, .tup _ _ (by rfl) fun i x hx => ?_, ⟨rfl, rfl, rfl, Nat.le_refl _, fun _ _ => rfl⟩⟩
      match i, hx with
      | 0, hx => cases hx; exact .str _ _ rfl (by omega)
      | 1, hx => cases hx; exact .str _ _ rfl (by omega)
      | 2, hx => cases hx; exact .bool _
      | (n + 3), hx => simp at hx
end Go.Proofs.YtlhikhaailhoaaaDoor
set_option linter.unusedVariables false
set_option linter.unusedSimpArgs false
set_option maxRecDepth 100000
set_option maxHeartbeats 1000000
namespace Go.Proofs.YtlhikhaailhoaaaDoor
open Go Go.Abs
theorem explain_Error_ok (e1 : Int) (r : (List UInt8)) (h : M.explain_Error e1 = some r) : Pure Tryd.prog 9 [.int .i64 e1] (.str r) := by
  rw [M.explain_Error] at h
  refine pure_of_body Tryd.func9 (by rfl) (by rfl) (by simp) (by simp) (by simp) ?_
  refine cut 66 0 [(0, .int .i64 e1)] [] ?_ ?_
  · refine st ?_
    simp
  refine awp_seq ?_
  refine cut 66 0 [(3, .int .i64 e1)] [] ?_ ?_
  · refine st ?_
    simp
  refine awp_block ?_
  refine cut 66 0 [(3, .int .i64 e1), (4, .bool (eqI e1 0))] [] ?_ ?_
  · refine st ?_
    simp
  rcases sp h with ⟨g2, h⟩ | ⟨g2, h⟩
  · have c3 := eqT g2
    refine condT rfl g2 ?_
    refine cut 66 0 [(2, .str [110, 111, 32, 101, 114, 114, 111, 114])] [] ?_ ?_
    · refine st ?_
      simp
    refine awp_ret ?_
    refine ret_blk ?_
    refine ret_seq ?_
    obtain rfl := Option.some.inj h
    simp
  · have c4 := eqF g2
    refine condF rfl g2 ?_
    refine cut 66 0 [(3, .int .i64 e1), (6, .bool (eqI e1 1))] [] ?_ ?_
    · refine st ?_
      simp
    rcases sp h with ⟨g5, h⟩ | ⟨g5, h⟩
    · have c6 := eqT g5
      refine condT rfl g5 ?_
      refine cut 66 0 [(2, .str [97, 110, 32, 97, 114, 103, 117, 109, 101, 110, 116, 32, 105, 115, 32, 110, 111, 116, 32, 118, 97, 108, 105, 100])] [] ?_ ?_
      · refine st ?_
        simp
      refine awp_ret ?_
      refine ret_blk ?_
      refine ret_seq ?_
      obtain rfl := Option.some.inj h
      simp
    · have c7 := eqF g5
      refine condF rfl g5 ?_
      refine cut 66 0 [(3, .int .i64 e1), (8, .bool (eqI e1 2))] [] ?_ ?_
      · refine st ?_
        simp
      rcases sp h with ⟨g8, h⟩ | ⟨g8, h⟩
      · have c9 := eqT g8
        refine condT rfl g8 ?_
        refine cut 66 0 [(2, .str [97, 32, 110, 117, 109, 98, 101, 114, 32, 105, 115, 32, 111, 117, 116, 32, 111, 102, 32, 114, 97, 110, 103, 101])] [] ?_ ?_
        · refine st ?_
          simp
        refine awp_ret ?_
        refine ret_blk ?_
        refine ret_seq ?_
        obtain rfl := Option.some.inj h
        simp
      · have c10 := eqF g8
        refine condF rfl g8 ?_
        refine cut 66 0 [(3, .int .i64 e1), (10, .bool (eqI e1 3))] [] ?_ ?_
        · refine st ?_
          simp
        rcases sp h with ⟨g11, h⟩ | ⟨g11, h⟩
        · have c12 := eqT g11
          refine condT rfl g11 ?_
          refine cut 66 0 [(2, .str [97, 32, 116, 101, 120, 116, 32, 105, 115, 32, 109, 97, 108, 102, 111, 114, 109, 101, 100])] [] ?_ ?_
          · refine st ?_
            simp
          refine awp_ret ?_
          refine ret_blk ?_
          refine ret_seq ?_
          obtain rfl := Option.some.inj h
          simp
        · have c13 := eqF g11
          refine condF rfl g11 ?_
          refine cut 66 0 [(3, .int .i64 e1), (12, .bool (eqI e1 4))] [] ?_ ?_
          · refine st ?_
            simp
          rcases sp h with ⟨g14, h⟩ | ⟨g14, h⟩
          · have c15 := eqT g14
            refine condT rfl g14 ?_
            refine cut 66 0 [(2, .str [97, 32, 116, 101, 120, 116, 32, 101, 110, 100, 115, 32, 116, 111, 111, 32, 101, 97, 114, 108, 121])] [] ?_ ?_
            · refine st ?_
              simp
            refine awp_ret ?_
            refine ret_blk ?_
            refine ret_seq ?_
            obtain rfl := Option.some.inj h
            simp
          · have c16 := eqF g14
            refine condF rfl g14 ?_
            refine cut 66 0 [(3, .int .i64 e1), (14, .bool (eqI e1 5))] [] ?_ ?_
            · refine st ?_
              simp
            rcases sp h with ⟨g17, h⟩ | ⟨g17, h⟩
            · have c18 := eqT g17
              refine condT rfl g17 ?_
              refine cut 66 0 [(2, .str [116, 111, 111, 32, 109, 97, 110, 121, 44, 32, 111, 114, 32, 116, 111, 111, 32, 108, 111, 110, 103])] [] ?_ ?_
              · refine st ?_
                simp
              refine awp_ret ?_
              refine ret_blk ?_
              refine ret_seq ?_
              obtain rfl := Option.some.inj h
              simp
            · have c19 := eqF g17
              refine condF rfl g17 ?_
              refine cut 66 0 [(3, .int .i64 e1), (16, .bool (eqI e1 6))] [] ?_ ?_
              · refine st ?_
                simp
              rcases sp h with ⟨g20, h⟩ | ⟨g20, h⟩
              · have c21 := eqT g20
                refine condT rfl g20 ?_
                refine cut 66 0 [(2, .str [97, 32, 114, 101, 115, 117, 108, 116, 32, 101, 120, 99, 101, 101, 100, 115, 32, 105, 116, 115, 32, 108, 105, 109, 105, 116])] [] ?_ ?_
                · refine st ?_
                  simp
                refine awp_ret ?_
                refine ret_blk ?_
                refine ret_seq ?_
                obtain rfl := Option.some.inj h
                simp
              · have c22 := eqF g20
                refine condF rfl g20 ?_
                refine cut 66 0 [(3, .int .i64 e1), (18, .bool (eqI e1 7))] [] ?_ ?_
                · refine st ?_
                  simp
                rcases sp h with ⟨g23, h⟩ | ⟨g23, h⟩
                · have c24 := eqT g23
                  refine condT rfl g23 ?_
                  refine cut 66 0 [(2, .str [110, 111, 116, 32, 112, 111, 115, 115, 105, 98, 108, 101, 32, 105, 110, 32, 116, 104, 105, 115, 32, 115, 116, 97, 116, 101])] [] ?_ ?_
                  · refine st ?_
                    simp
                  refine awp_ret ?_
                  refine ret_blk ?_
                  refine ret_seq ?_
                  obtain rfl := Option.some.inj h
                  simp
                · have c25 := eqF g23
                  refine condF rfl g23 ?_
                  refine cut 66 0 [(3, .int .i64 e1), (20, .bool (eqI e1 8))] [] ?_ ?_
                  · refine st ?_
                    simp
                  rcases sp h with ⟨g26, h⟩ | ⟨g26, h⟩
                  · have c27 := eqT g26
                    refine condT rfl g26 ?_
                    refine cut 66 0 [(2, .str [116, 104, 101, 114, 101, 32, 105, 115, 32, 110, 111, 110, 101])] [] ?_ ?_
                    · refine st ?_
                      simp
                    refine awp_ret ?_
                    refine ret_blk ?_
                    refine ret_seq ?_
                    obtain rfl := Option.some.inj h
                    simp
                  · have c28 := eqF g26
                    refine condF rfl g26 ?_
                    refine cut 66 0 [(3, .int .i64 e1), (22, .bool (eqI e1 9))] [] ?_ ?_
                    · refine st ?_
                      simp
                    rcases sp h with ⟨g29, h⟩ | ⟨g29, h⟩
                    · have c30 := eqT g29
                      refine condT rfl g29 ?_
                      refine cut 66 0 [(2, .str [116, 104, 101, 32, 115, 97, 109, 101, 32, 110, 97, 109, 101, 32, 116, 119, 105, 99, 101])] [] ?_ ?_
                      · refine st ?_
                        simp
                      refine awp_ret ?_
                      refine ret_blk ?_
                      refine ret_seq ?_
                      obtain rfl := Option.some.inj h
                      simp
                    · have c31 := eqF g29
                      refine condF rfl g29 ?_
                      refine cut 66 0 [(3, .int .i64 e1), (24, .bool (eqI e1 10))] [] ?_ ?_
                      · refine st ?_
                        simp
                      rcases sp h with ⟨g32, h⟩ | ⟨g32, h⟩
                      · have c33 := eqT g32
                        refine condT rfl g32 ?_
                        refine cut 66 0 [(2, .str [97, 110, 32, 117, 110, 107, 110, 111, 119, 110, 32, 110, 97, 109, 101])] [] ?_ ?_
                        · refine st ?_
                          simp
                        refine awp_ret ?_
                        refine ret_blk ?_
                        refine ret_seq ?_
                        obtain rfl := Option.some.inj h
                        simp
                      · have c34 := eqF g32
                        refine condF rfl g32 ?_
                        refine cut 66 0 [(3, .int .i64 e1), (26, .bool (eqI e1 11))] [] ?_ ?_
                        · refine st ?_
                          simp
                        rcases sp h with ⟨g35, h⟩ | ⟨g35, h⟩
                        · have c36 := eqT g35
                          refine condT rfl g35 ?_
                          refine cut 66 0 [(2, .str [97, 32, 99, 111, 110, 115, 116, 114, 117, 99, 116, 111, 114, 32, 111, 102, 32, 97, 32, 119, 114, 111, 110, 103, 32, 107, 105, 110, 100])] [] ?_ ?_
                          · refine st ?_
                            simp
                          refine awp_ret ?_
                          refine ret_blk ?_
                          refine ret_seq ?_
                          obtain rfl := Option.some.inj h
                          simp
                        · have c37 := eqF g35
                          refine condF rfl g35 ?_
                          refine cut 66 0 [(3, .int .i64 e1), (28, .bool (eqI e1 12))] [] ?_ ?_
                          · refine st ?_
                            simp
                          rcases sp h with ⟨g38, h⟩ | ⟨g38, h⟩
                          · have c39 := eqT g38
                            refine condT rfl g38 ?_
                            refine cut 66 0 [(2, .str [97, 32, 119, 114, 111, 110, 103, 32, 116, 121, 112, 101])] [] ?_ ?_
                            · refine st ?_
                              simp
                            refine awp_ret ?_
                            refine ret_blk ?_
                            refine ret_seq ?_
                            obtain rfl := Option.some.inj h
                            simp
                          · have c40 := eqF g38
                            refine condF rfl g38 ?_
                            refine cut 66 0 [(3, .int .i64 e1), (30, .bool (eqI e1 13))] [] ?_ ?_
                            · refine st ?_
                              simp
                            rcases sp h with ⟨g41, h⟩ | ⟨g41, h⟩
                            · have c42 := eqT g41
                              refine condT rfl g41 ?_
                              refine cut 66 0 [(2, .str [97, 32, 116, 121, 112, 101, 32, 116, 104, 97, 116, 32, 119, 111, 117, 108, 100, 32, 99, 111, 110, 116, 97, 105, 110, 32, 105, 116, 115, 101, 108, 102])] [] ?_ ?_
                              · refine st ?_
                                simp
                              refine awp_ret ?_
                              refine ret_blk ?_
                              refine ret_seq ?_
                              obtain rfl := Option.some.inj h
                              simp
                            · have c43 := eqF g41
                              refine condF rfl g41 ?_
                              refine cut 66 0 [(3, .int .i64 e1), (32, .bool (eqI e1 14))] [] ?_ ?_
                              · refine st ?_
                                simp
                              rcases sp h with ⟨g44, h⟩ | ⟨g44, h⟩
                              · have c45 := eqT g44
                                refine condT rfl g44 ?_
                                refine cut 66 0 [(2, .str [97, 32, 109, 97, 116, 99, 104, 32, 116, 104, 97, 116, 32, 105, 115, 32, 110, 111, 116, 32, 101, 120, 104, 97, 117, 115, 116, 105, 118, 101])] [] ?_ ?_
                                · refine st ?_
                                  simp
                                refine awp_ret ?_
                                refine ret_blk ?_
                                refine ret_seq ?_
                                obtain rfl := Option.some.inj h
                                simp
                              · have c46 := eqF g44
                                refine condF rfl g44 ?_
                                refine cut 66 0 [(3, .int .i64 e1), (34, .bool (eqI e1 15))] [] ?_ ?_
                                · refine st ?_
                                  simp
                                rcases sp h with ⟨g47, h⟩ | ⟨g47, h⟩
                                · have c48 := eqT g47
                                  refine condT rfl g47 ?_
                                  refine cut 66 0 [(2, .str [97, 32, 114, 117, 108, 101, 32, 116, 104, 97, 116, 32, 105, 115, 32, 110, 101, 118, 101, 114, 32, 99, 104, 111, 115, 101, 110])] [] ?_ ?_
                                  · refine st ?_
                                    simp
                                  refine awp_ret ?_
                                  refine ret_blk ?_
                                  refine ret_seq ?_
                                  obtain rfl := Option.some.inj h
                                  simp
                                · have c49 := eqF g47
                                  refine condF rfl g47 ?_
                                  refine cut 66 0 [(3, .int .i64 e1), (36, .bool (eqI e1 16))] [] ?_ ?_
                                  · refine st ?_
                                    simp
                                  rcases sp h with ⟨g50, h⟩ | ⟨g50, h⟩
                                  · have c51 := eqT g50
                                    refine condT rfl g50 ?_
                                    refine cut 66 0 [(2, .str [97, 110, 32, 97, 98, 115, 116, 114, 97, 99, 116, 32, 116, 121, 112, 101, 32, 119, 111, 117, 108, 100, 32, 108, 101, 97, 118, 101, 32, 105, 116, 115, 32, 115, 99, 111, 112, 101])] [] ?_ ?_
                                    · refine st ?_
                                      simp
                                    refine awp_ret ?_
                                    refine ret_blk ?_
                                    refine ret_seq ?_
                                    obtain rfl := Option.some.inj h
                                    simp
                                  · have c52 := eqF g50
                                    refine condF rfl g50 ?_
                                    refine cut 66 0 [(3, .int .i64 e1), (38, .bool (eqI e1 17))] [] ?_ ?_
                                    · refine st ?_
                                      simp
                                    rcases sp h with ⟨g53, h⟩ | ⟨g53, h⟩
                                    · have c54 := eqT g53
                                      refine condT rfl g53 ?_
                                      refine cut 66 0 [(2, .str [97, 32, 99, 111, 109, 112, 111, 110, 101, 110, 116, 32, 105, 115, 32, 109, 105, 115, 115, 105, 110, 103])] [] ?_ ?_
                                      · refine st ?_
                                        simp
                                      refine awp_ret ?_
                                      refine ret_blk ?_
                                      refine ret_seq ?_
                                      obtain rfl := Option.some.inj h
                                      simp
                                    · have c55 := eqF g53
                                      refine condF rfl g53 ?_
                                      refine cut 66 0 [(3, .int .i64 e1), (40, .bool (eqI e1 18))] [] ?_ ?_
                                      · refine st ?_
                                        simp
                                      rcases sp h with ⟨g56, h⟩ | ⟨g56, h⟩
                                      · have c57 := eqT g56
                                        refine condT rfl g56 ?_
                                        refine cut 66 0 [(2, .str [97, 110, 32, 97, 98, 115, 116, 114, 97, 99, 116, 32, 116, 121, 112, 101, 32, 104, 97, 115, 32, 110, 111, 32, 114, 111, 111, 116])] [] ?_ ?_
                                        · refine st ?_
                                          simp
                                        refine awp_ret ?_
                                        refine ret_blk ?_
                                        refine ret_seq ?_
                                        obtain rfl := Option.some.inj h
                                        simp
                                      · have c58 := eqF g56
                                        refine condF rfl g56 ?_
                                        refine cut 66 0 [(3, .int .i64 e1), (42, .bool (eqI e1 19))] [] ?_ ?_
                                        · refine st ?_
                                          simp
                                        rcases sp h with ⟨g59, h⟩ | ⟨g59, h⟩
                                        · have c60 := eqT g59
                                          refine condT rfl g59 ?_
                                          refine cut 66 0 [(2, .str [97, 32, 103, 101, 110, 101, 114, 97, 116, 105, 118, 101, 32, 109, 111, 100, 117, 108, 101, 32, 105, 110, 32, 97, 110, 32, 97, 112, 112, 108, 105, 99, 97, 116, 105, 118, 101, 32, 102, 117, 110, 99, 116, 111, 114])] [] ?_ ?_
                                          · refine st ?_
                                            simp
                                          refine awp_ret ?_
                                          refine ret_blk ?_
                                          refine ret_seq ?_
                                          obtain rfl := Option.some.inj h
                                          simp
                                        · have c61 := eqF g59
                                          refine condF rfl g59 ?_
                                          refine cut 66 0 [(3, .int .i64 e1), (44, .bool (eqI e1 20))] [] ?_ ?_
                                          · refine st ?_
                                            simp
                                          rcases sp h with ⟨g62, h⟩ | ⟨g62, h⟩
                                          · have c63 := eqT g62
                                            refine condT rfl g62 ?_
                                            refine cut 66 0 [(2, .str [97, 32, 116, 121, 112, 101, 32, 116, 104, 97, 116, 32, 99, 97, 110, 110, 111, 116, 32, 98, 101, 32, 114, 101, 102, 105, 110, 101, 100])] [] ?_ ?_
                                            · refine st ?_
                                              simp
                                            refine awp_ret ?_
                                            refine ret_blk ?_
                                            refine ret_seq ?_
                                            obtain rfl := Option.some.inj h
                                            simp
                                          · have c64 := eqF g62
                                            refine condF rfl g62 ?_
                                            refine cut 66 0 [(3, .int .i64 e1), (46, .bool (eqI e1 21))] [] ?_ ?_
                                            · refine st ?_
                                              simp
                                            rcases sp h with ⟨g65, h⟩ | ⟨g65, h⟩
                                            · have c66 := eqT g65
                                              refine condT rfl g65 ?_
                                              refine cut 66 0 [(2, .str [117, 110, 105, 116, 115, 32, 116, 104, 97, 116, 32, 105, 109, 112, 111, 114, 116, 32, 101, 97, 99, 104, 32, 111, 116, 104, 101, 114])] [] ?_ ?_
                                              · refine st ?_
                                                simp
                                              refine awp_ret ?_
                                              refine ret_blk ?_
                                              refine ret_seq ?_
                                              obtain rfl := Option.some.inj h
                                              simp
                                            · have c67 := eqF g65
                                              refine condF rfl g65 ?_
                                              refine cut 66 0 [(3, .int .i64 e1), (48, .bool (eqI e1 22))] [] ?_ ?_
                                              · refine st ?_
                                                simp
                                              rcases sp h with ⟨g68, h⟩ | ⟨g68, h⟩
                                              · have c69 := eqT g68
                                                refine condT rfl g68 ?_
                                                refine cut 66 0 [(2, .str [109, 111, 114, 101, 32, 115, 116, 101, 112, 115, 32, 116, 104, 97, 110, 32, 112, 101, 114, 109, 105, 116, 116, 101, 100])] [] ?_ ?_
                                                · refine st ?_
                                                  simp
                                                refine awp_ret ?_
                                                refine ret_blk ?_
                                                refine ret_seq ?_
                                                obtain rfl := Option.some.inj h
                                                simp
                                              · have c70 := eqF g68
                                                refine condF rfl g68 ?_
                                                refine cut 66 0 [(3, .int .i64 e1), (50, .bool (eqI e1 23))] [] ?_ ?_
                                                · refine st ?_
                                                  simp
                                                rcases sp h with ⟨g71, h⟩ | ⟨g71, h⟩
                                                · have c72 := eqT g71
                                                  refine condT rfl g71 ?_
                                                  refine cut 66 0 [(2, .str [97, 32, 116, 101, 114, 109, 32, 116, 104, 97, 116, 32, 103, 111, 101, 115, 32, 119, 114, 111, 110, 103])] [] ?_ ?_
                                                  · refine st ?_
                                                    simp
                                                  refine awp_ret ?_
                                                  refine ret_blk ?_
                                                  refine ret_seq ?_
                                                  obtain rfl := Option.some.inj h
                                                  simp
                                                · have c73 := eqF g71
                                                  refine condF rfl g71 ?_
                                                  refine cut 66 0 [(3, .int .i64 e1), (52, .bool (eqI e1 24))] [] ?_ ?_
                                                  · refine st ?_
                                                    simp
                                                  rcases sp h with ⟨g74, h⟩ | ⟨g74, h⟩
                                                  · have c75 := eqT g74
                                                    refine condT rfl g74 ?_
                                                    refine cut 66 0 [(2, .str [98, 121, 116, 101, 32, 99, 111, 100, 101, 32, 116, 104, 97, 116, 32, 105, 115, 32, 110, 111, 116, 32, 97, 99, 99, 101, 112, 116, 101, 100])] [] ?_ ?_
                                                    · refine st ?_
                                                      simp
                                                    refine awp_ret ?_
                                                    refine ret_blk ?_
                                                    refine ret_seq ?_
                                                    obtain rfl := Option.some.inj h
                                                    simp
                                                  · have c76 := eqF g74
                                                    refine condF rfl g74 ?_
                                                    refine cut 66 0 [(3, .int .i64 e1), (54, .bool (eqI e1 25))] [] ?_ ?_
                                                    · refine st ?_
                                                      simp
                                                    rcases sp h with ⟨g77, h⟩ | ⟨g77, h⟩
                                                    · have c78 := eqT g77
                                                      refine condT rfl g77 ?_
                                                      refine cut 66 0 [(2, .str [116, 104, 101, 32, 104, 101, 97, 112, 32, 105, 115, 32, 116, 111, 111, 32, 115, 109, 97, 108, 108])] [] ?_ ?_
                                                      · refine st ?_
                                                        simp
                                                      refine awp_ret ?_
                                                      refine ret_blk ?_
                                                      refine ret_seq ?_
                                                      obtain rfl := Option.some.inj h
                                                      simp
                                                    · have c79 := eqF g77
                                                      refine condF rfl g77 ?_
                                                      refine cut 66 0 [(3, .int .i64 e1), (56, .bool (eqI e1 26))] [] ?_ ?_
                                                      · refine st ?_
                                                        simp
                                                      rcases sp h with ⟨g80, h⟩ | ⟨g80, h⟩
                                                      · have c81 := eqT g80
                                                        refine condT rfl g80 ?_
                                                        refine cut 66 0 [(2, .str [97, 32, 115, 105, 103, 110, 97, 116, 117, 114, 101, 32, 116, 104, 97, 116, 32, 105, 115, 32, 110, 111, 116, 32, 102, 105, 114, 115, 116, 45, 111, 114, 100, 101, 114])] [] ?_ ?_
                                                        · refine st ?_
                                                          simp
                                                        refine awp_ret ?_
                                                        refine ret_blk ?_
                                                        refine ret_seq ?_
                                                        obtain rfl := Option.some.inj h
                                                        simp
                                                      · have c82 := eqF g80
                                                        refine condF rfl g80 ?_
                                                        refine cut 66 0 [(3, .int .i64 e1), (58, .bool (eqI e1 27))] [] ?_ ?_
                                                        · refine st ?_
                                                          simp
                                                        rcases sp h with ⟨g83, h⟩ | ⟨g83, h⟩
                                                        · have c84 := eqT g83
                                                          refine condT rfl g83 ?_
                                                          refine cut 66 0 [(2, .str [109, 111, 114, 101, 32, 115, 116, 97, 116, 101, 115, 32, 116, 104, 97, 110, 32, 112, 101, 114, 109, 105, 116, 116, 101, 100])] [] ?_ ?_
                                                          · refine st ?_
                                                            simp
                                                          refine awp_ret ?_
                                                          refine ret_blk ?_
                                                          refine ret_seq ?_
                                                          obtain rfl := Option.some.inj h
                                                          simp
                                                        · have c85 := eqF g83
                                                          refine condF rfl g83 ?_
                                                          refine cut 66 0 [(3, .int .i64 e1), (60, .bool (eqI e1 28))] [] ?_ ?_
                                                          · refine st ?_
                                                            simp
                                                          rcases sp h with ⟨g86, h⟩ | ⟨g86, h⟩
                                                          · have c87 := eqT g86
                                                            refine condT rfl g86 ?_
                                                            refine cut 66 0 [(2, .str [116, 119, 111, 32, 115, 116, 114, 117, 99, 116, 117, 114, 101, 115, 32, 100, 105, 102, 102, 101, 114])] [] ?_ ?_
                                                            · refine st ?_
                                                              simp
                                                            refine awp_ret ?_
                                                            refine ret_blk ?_
                                                            refine ret_seq ?_
                                                            obtain rfl := Option.some.inj h
                                                            simp
                                                          · have c88 := eqF g86
                                                            refine condF rfl g86 ?_
                                                            refine cut 66 0 [(3, .int .i64 e1), (62, .bool (eqI e1 29))] [] ?_ ?_
                                                            · refine st ?_
                                                              simp
                                                            rcases sp h with ⟨g89, h⟩ | ⟨g89, h⟩
                                                            · have c90 := eqT g89
                                                              refine condT rfl g89 ?_
                                                              refine cut 66 0 [(2, .str [97, 32, 99, 104, 101, 99, 107, 32, 115, 117, 109, 32, 105, 115, 32, 119, 114, 111, 110, 103])] [] ?_ ?_
                                                              · refine st ?_
                                                                simp
                                                              refine awp_ret ?_
                                                              refine ret_blk ?_
                                                              refine ret_seq ?_
                                                              obtain rfl := Option.some.inj h
                                                              simp
                                                            · have c91 := eqF g89
                                                              refine condF rfl g89 ?_
                                                              refine cut 66 0 [(64, .bool (eqI e1 30))] [] ?_ ?_
                                                              · refine st ?_
                                                                simp
                                                              rcases sp h with ⟨g92, h⟩ | ⟨g92, h⟩
                                                              · have c93 := eqT g92
                                                                refine condT rfl g92 ?_
                                                                refine cut 66 0 [(2, .str [97, 32, 99, 114, 97, 115, 104])] [] ?_ ?_
                                                                · refine st ?_
                                                                  simp
                                                                refine awp_ret ?_
                                                                refine ret_blk ?_
                                                                refine ret_seq ?_
                                                                obtain rfl := Option.some.inj h
                                                                simp
                                                              · have c94 := eqF g92
                                                                refine condF rfl g92 ?_
                                                                refine awp_skip ?_
                                                                refine blk_n ?_
                                                                refine seq_eq ?_
                                                                refine cut 66 0 [(2, .str [117, 110, 107, 110, 111, 119, 110, 32, 101, 114, 114, 111, 114])] [] ?_ ?_
                                                                · refine st ?_
                                                                  simp
                                                                refine awp_ret ?_
                                                                obtain rfl := Option.some.inj h
                                                                simp
end Go.Proofs.YtlhikhaailhoaaaDoor
set_option linter.unusedVariables false
set_option linter.unusedSimpArgs false
set_option maxRecDepth 100000
set_option maxHeartbeats 1000000
namespace Go.Proofs.YtlhikhaailhoaaaDoor
open Go Go.Abs
theorem ident_of_ok (c1 : UInt8) (r : Int) (h : M.ident_of c1 = some r) : Pure Tryd.prog 64 [.int .u8 (c1.toNat : Int)] (.int .i64 r) := by
  rw [M.ident_of] at h
  refine pure_of_body Tryd.func64 (by rfl) (by rfl) (by simp) (by simp) (by simp) ?_
  refine cut 30 0 [(0, .int .u8 (c1.toNat : Int))] [] ?_ ?_
  · refine st ?_
    simp
  refine awp_seq ?_
  refine awp_block ?_
  refine cut 30 0 [(0, .int .u8 (c1.toNat : Int)), (3, .bool ((leI 97 (c1.toNat : Int)) && (leI (c1.toNat : Int) 122)))] [] ?_ ?_
  · rcases tf (leI 97 (c1.toNat : Int)) with g2 | g2
    · have c3 := leT g2
      refine st ?_
      simp [g2]
    · have c4 := leF g2
      refine st ?_
      simp [g2]
  rcases sp h with ⟨g5, h⟩ | ⟨g5, h⟩
  · obtain ⟨g6, g7⟩ := andT g5
    have c8 := leT g6
    have c9 := leT g7
    refine condT rfl g5 ?_
    refine cut 30 0 [(2, .int .i64 1)] [] ?_ ?_
    · refine st ?_
      simp
    refine awp_ret ?_
    refine ret_blk ?_
    refine ret_seq ?_
    obtain rfl := Option.some.inj h
    simp
  · refine condF rfl g5 ?_
    refine cut 30 0 [(0, .int .u8 (c1.toNat : Int)), (10, .bool ((leI 65 (c1.toNat : Int)) && (leI (c1.toNat : Int) 90)))] [] ?_ ?_
    · rcases tf (leI 65 (c1.toNat : Int)) with g10 | g10
      · have c11 := leT g10
        refine st ?_
        simp [g10]
      · have c12 := leF g10
        refine st ?_
        simp [g10]
    rcases sp h with ⟨g13, h⟩ | ⟨g13, h⟩
    · obtain ⟨g14, g15⟩ := andT g13
      have c16 := leT g14
      have c17 := leT g15
      refine condT rfl g13 ?_
      refine cut 30 0 [(2, .int .i64 2)] [] ?_ ?_
      · refine st ?_
        simp
      refine awp_ret ?_
      refine ret_blk ?_
      refine ret_seq ?_
      obtain rfl := Option.some.inj h
      simp
    · refine condF rfl g13 ?_
      refine cut 30 0 [(0, .int .u8 (c1.toNat : Int)), (17, .bool ((leI 48 (c1.toNat : Int)) && (leI (c1.toNat : Int) 57)))] [] ?_ ?_
      · rcases tf (leI 48 (c1.toNat : Int)) with g18 | g18
        · have c19 := leT g18
          refine st ?_
          simp [g18]
        · have c20 := leF g18
          refine st ?_
          simp [g18]
      rcases sp h with ⟨g21, h⟩ | ⟨g21, h⟩
      · obtain ⟨g22, g23⟩ := andT g21
        have c24 := leT g22
        have c25 := leT g23
        refine condT rfl g21 ?_
        refine cut 30 0 [(2, .int .i64 3)] [] ?_ ?_
        · refine st ?_
          simp
        refine awp_ret ?_
        refine ret_blk ?_
        refine ret_seq ?_
        obtain rfl := Option.some.inj h
        simp
      · refine condF rfl g21 ?_
        refine cut 30 0 [(0, .int .u8 (c1.toNat : Int)), (24, .bool (eqI (c1.toNat : Int) 95))] [] ?_ ?_
        · refine st ?_
          simp
        rcases sp h with ⟨g26, h⟩ | ⟨g26, h⟩
        · have c27 := eqT g26
          refine condT rfl g26 ?_
          refine cut 30 0 [(2, .int .i64 4)] [] ?_ ?_
          · refine st ?_
            simp
          refine awp_ret ?_
          refine ret_blk ?_
          refine ret_seq ?_
          obtain rfl := Option.some.inj h
          simp
        · have c28 := eqF g26
          refine condF rfl g26 ?_
          refine cut 30 0 [(27, .bool (eqI (c1.toNat : Int) 46))] [] ?_ ?_
          · refine st ?_
            simp
          rcases sp h with ⟨g29, h⟩ | ⟨g29, h⟩
          · have c30 := eqT g29
            refine condT rfl g29 ?_
            refine cut 30 0 [(2, .int .i64 5)] [] ?_ ?_
            · refine st ?_
              simp
            refine awp_ret ?_
            refine ret_blk ?_
            refine ret_seq ?_
            obtain rfl := Option.some.inj h
            simp
          · have c31 := eqF g29
            refine condF rfl g29 ?_
            refine awp_skip ?_
            refine blk_n ?_
            refine seq_eq ?_
            refine cut 30 0 [(2, .int .i64 0)] [] ?_ ?_
            · refine st ?_
              simp
            refine awp_ret ?_
            obtain rfl := Option.some.inj h
            simp
end Go.Proofs.YtlhikhaailhoaaaDoor
set_option linter.unusedVariables false
set_option linter.unusedSimpArgs false
set_option maxRecDepth 100000
set_option maxHeartbeats 1000000
namespace Go.Proofs.YtlhikhaailhoaaaDoor
open Go Go.Abs
theorem ident_name_ok (fuel : Nat) (s1 : (List UInt8)) (first2 : Int) (r : Bool) (h : M.ident_name fuel s1 first2 = some r) : Pure Tryd.prog 51 [.str s1, .int .i64 first2] (.bool r) := by
  rw [M.ident_name] at h
  refine pure_of_body Tryd.func51 (by rfl) (by rfl) (by simp) (by simp) (by simp) ?_
  refine cut 38 0 [(0, .str s1), (1, .int .i64 first2)] [] ?_ ?_
  · refine st ?_
    simp
  refine awp_seq ?_
  obtain ⟨b13, q14, h⟩ := bs h
  refine cut 38 0 [(0, .str s1), (21, .bool b13)] [] ?_ ?_
  · rcases sp q14 with ⟨g3, q14⟩ | ⟨g3, q14⟩
    · obtain rfl := Option.some.inj q14
      refine st ?_
      simp [g3]
    · rcases sp q14 with ⟨g4, q14⟩ | ⟨g4, q14⟩
      · have c5 := ltT g4
        refine factS 0 rfl fun f6 => ?_
        obtain rfl := Option.some.inj q14
        refine st ?_
        simp [g3, g4]
      · have c7 := ltF g4
        refine factS 0 rfl fun f8 => ?_
        obtain ⟨c9, q10, q14⟩ := bs q14
        obtain ⟨v11, q12, q14⟩ := bs q14
        obtain rfl := Option.some.inj q14
        refine st ?_
        simp [g3, g4, q10]
        have r46 := ident_of_ok c9 v11 q12
        try simp [g3, g4, q10] at r46
        refine callPure r46 (by simp) rfl ?_
        simp [g3, g4, q10]
  rcases sp h with ⟨g15, h⟩ | ⟨g15, h⟩
  · refine condT rfl g15 ?_
    refine cut 38 0 [(4, .bool false)] [] ?_ ?_
    · refine st ?_
      simp
    refine awp_ret ?_
    refine ret_seq ?_
    obtain rfl := Option.some.inj h
    simp
  · refine condF rfl g15 ?_
    refine awp_skip ?_
    refine seq_eq ?_
    refine awp_seq ?_
    obtain ⟨l16, q17, h⟩ := bs h
    obtain ⟨q18, q19⟩ := bytesC_ok q17
    refine cut 38 0 [(23, .sl (l16.map cU)), (24, .int .i64 (l16.length : Int)), (25, .int .i64 0)] [] ?_ ?_
    · refine st ?_
      simp [q18, q19]
    refine awp_block ?_
    obtain ⟨o22, l23, h⟩ := bs h
    refine awp_inv (fun p : Nat × Nat => mkS 38 0 [(23, .sl (l16.map cU)), (24, .int .i64 (l16.length : Int)), (25, .int .i64 ((p.2 : Nat) : Int))] []) (fun p => M.ident_name_l1 l16 p.1 p.2 = some o22) (fun p => p.1) (fuel, 0) l23 (le_mkS (by simp)) ?_
    rintro ⟨k24, i20⟩ l23
    dsimp only at l23 ⊢
    cases k24 with
    | zero =>
      rw [M.ident_name_l1] at l23; cases l23
    | succ k25 =>
      rw [M.ident_name_l1] at l23
      refine cut 38 0 [(23, .sl (l16.map cU)), (24, .int .i64 (l16.length : Int)), (25, .int .i64 ((i20 : Nat) : Int)), (26, .bool (ltI ((i20 : Nat) : Int) (l16.length : Int)))] [] ?_ ?_
      · refine st ?_
        simp
      refine awp_seq ?_
      rcases sp l23 with ⟨g26, l23⟩ | ⟨g26, l23⟩
      · have c27 := ltT g26
        refine condT rfl g26 ?_
        refine factL 23 rfl fun f28 => ?_
        rw [List.length_map] at f28
        refine awp_skip ?_
        refine seq_eq ?_
        refine awp_seq ?_
        refine awp_block ?_
        obtain ⟨x29, q30, l23⟩ := bs l23
        refine cut 38 0 [(6, .int .u8 (x29.toNat : Int)), (23, .sl (l16.map cU)), (24, .int .i64 (l16.length : Int)), (25, .int .i64 ((i20 : Nat) : Int))] [] ?_ ?_
        · refine st ?_
          simp [q30]
        obtain ⟨v31, q32, l23⟩ := bs l23
        refine cut 38 0 [(7, .int .i64 v31), (23, .sl (l16.map cU)), (24, .int .i64 (l16.length : Int)), (25, .int .i64 ((i20 : Nat) : Int))] [] ?_ ?_
        · refine st ?_
          simp
          have r42 := ident_of_ok x29 v31 q32
          try simp [] at r42
          refine callPure r42 (by simp) rfl ?_
          simp
        refine cut 38 0 [(23, .sl (l16.map cU)), (24, .int .i64 (l16.length : Int)), (25, .int .i64 ((i20 : Nat) : Int)), (36, .bool ((eqI v31 0) || (eqI v31 5)))] [] ?_ ?_
        · rcases tf (eqI v31 0) with g33 | g33
          · have c34 := eqT g33
            refine st ?_
            simp [g33]
          · have c35 := eqF g33
            refine st ?_
            simp [g33]
        rcases sp l23 with ⟨g36, l23⟩ | ⟨g36, l23⟩
        · refine condT rfl g36 ?_
          refine cut 38 0 [(4, .bool false)] [] ?_ ?_
          · refine st ?_
            simp
          refine awp_ret ?_
          refine ret_blk ?_
          refine ret_seq ?_
          replace h := retL l23 h
          refine ret_seq ?_
          refine ret_blk ?_
          refine ret_seq ?_
          obtain rfl := Option.some.inj h
          simp
        · obtain ⟨g37, g38⟩ := orF g36
          have c39 := eqF g37
          have c40 := eqF g38
          refine condF rfl g36 ?_
          refine awp_skip ?_
          refine blk_n ?_
          refine seq_eq ?_
          have q41 : Rng .i64 (((i20 : Nat) : Int) + 1) := by simp only [Rng, inR]; omega
          try simp at q41
          refine last 38 0 [(23, .sl (l16.map cU)), (24, .int .i64 (l16.length : Int)), (25, .int .i64 ((i20 + 1 : Nat) : Int))] [] ?_ fun zz hs => ?_
          · refine st ?_
            simp [q41]
          exact ⟨(k25, i20 + 1), hs, l23, by simp⟩
      · have c43 := ltF g26
        refine condF rfl g26 ?_
        refine factL 23 rfl fun f44 => ?_
        rw [List.length_map] at f44
        refine awp_exit ?_
        refine exit_seq ?_
        rcases o22 with o22 | o21
        · cases l23
        have q45 := Sum.inr.inj (Option.some.inj l23)
        replace h := elimR h
        refine exit_seq ?_
        refine exit_blk ?_
        refine seq_le (t := mkS 38 0 [] []) ?_ (le_mkS (by simp []))
        refine cut 38 0 [(4, .bool true)] [] ?_ ?_
        · refine st ?_
          simp
        refine awp_ret ?_
        obtain rfl := Option.some.inj h
        simp
end Go.Proofs.YtlhikhaailhoaaaDoor
set_option linter.unusedVariables false
set_option linter.unusedSimpArgs false
set_option maxRecDepth 100000
set_option maxHeartbeats 1000000
namespace Go.Proofs.YtlhikhaailhoaaaDoor
open Go Go.Abs
theorem ident_IsUpper_ok (fuel : Nat) (s1 : (List UInt8)) (r : Bool) (h : M.ident_IsUpper fuel s1 = some r) : Pure Tryd.prog 41 [.str s1] (.bool r) := by
  rw [M.ident_IsUpper] at h
  refine pure_of_body Tryd.func41 (by rfl) (by rfl) (by simp) (by simp) (by simp) ?_
  refine cut 5 0 [(0, .str s1)] [] ?_ ?_
  · refine st ?_
    simp
  obtain ⟨v2, q3, h⟩ := bs h
  refine cut 5 0 [(2, .bool v2)] [] ?_ ?_
  · refine st ?_
    simp
    have r4 := ident_name_ok fuel s1 2 v2 q3
    try simp [] at r4
    refine callPure r4 (by simp) rfl ?_
    simp
  refine awp_ret ?_
  obtain rfl := Option.some.inj h
  simp
end Go.Proofs.YtlhikhaailhoaaaDoor
set_option linter.unusedVariables false
set_option linter.unusedSimpArgs false
set_option maxRecDepth 100000
set_option maxHeartbeats 1000000
namespace Go.Proofs.YtlhikhaailhoaaaDoor
open Go Go.Abs
theorem explain_valid_ok (fuel : Nat) (s1 : Api.Step) (r : Bool) (h : M.explain_valid fuel s1 = some r) : Pure Tryd.prog 25 [.agg [.str s1.Unit, .int .i64 s1.Reason.Op, .str s1.Reason.Unit, .bool s1.Compiled, .int .i64 s1.Code, .bool s1.Same]] (.bool r) := by
  rw [M.explain_valid] at h
  refine pure_of_body Tryd.func25 (by rfl) (by rfl) (by simp) (by simp) (by simp) ?_
  refine cut 39 0 [(1, .mptr 0 0)] [[.str s1.Unit, .int .i64 s1.Reason.Op, .str s1.Reason.Unit, .bool s1.Compiled, .int .i64 s1.Code, .bool s1.Same]] ?_ ?_
  · refine st ?_
    simp
  refine cut 39 0 [(1, .mptr 0 0), (3, .mptr 1 0)] [[.str s1.Unit, .int .i64 s1.Reason.Op, .str s1.Reason.Unit, .bool s1.Compiled, .int .i64 s1.Code, .bool s1.Same], [.int .i64 s1.Reason.Op, .str s1.Reason.Unit]] ?_ ?_
  · refine st ?_
    simp
  refine awp_seq ?_
  obtain ⟨b16, q17, h⟩ := bs h
  refine cut 39 0 [(3, .mptr 1 0), (29, .bool b16)] [[.str s1.Unit, .int .i64 s1.Reason.Op, .str s1.Reason.Unit, .bool s1.Compiled, .int .i64 s1.Code, .bool s1.Same], [.int .i64 s1.Reason.Op, .str s1.Reason.Unit]] ?_ ?_
  · obtain ⟨v2, q3, q17⟩ := bs q17
    rcases sp q17 with ⟨g4, q17⟩ | ⟨g4, q17⟩
    · have g5 := notT g4
      obtain rfl := Option.some.inj q17
      refine st ?_
      simp [g4]
      have r25 := ident_IsUpper_ok fuel s1.Unit v2 q3
      try simp [g4] at r25
      refine callPure r25 (by simp) rfl ?_
      simp [g4]
    · have g6 := notF g4
      rcases sp q17 with ⟨g7, q17⟩ | ⟨g7, q17⟩
      · have c8 := ltT g7
        obtain rfl := Option.some.inj q17
        refine st ?_
        simp [g4, g7]
        have r26 := ident_IsUpper_ok fuel s1.Unit v2 q3
        try simp [g4, g7] at r26
        refine callPure r26 (by simp) rfl ?_
        simp [g4, g7]
      · have c9 := ltF g7
        rcases sp q17 with ⟨g10, q17⟩ | ⟨g10, q17⟩
        · have c11 := ltT g10
          obtain rfl := Option.some.inj q17
          refine st ?_
          simp [g4, g7, g10]
          have r27 := ident_IsUpper_ok fuel s1.Unit v2 q3
          try simp [g4, g7, g10] at r27
          refine callPure r27 (by simp) rfl ?_
          simp [g4, g7, g10]
        · have c12 := ltF g10
          rcases sp q17 with ⟨g13, q17⟩ | ⟨g13, q17⟩
          · have c14 := ltT g13
            obtain rfl := Option.some.inj q17
            refine st ?_
            simp [g4, g7, g10, g13]
            have r28 := ident_IsUpper_ok fuel s1.Unit v2 q3
            try simp [g4, g7, g10, g13] at r28
            refine callPure r28 (by simp) rfl ?_
            simp [g4, g7, g10, g13]
          · have c15 := ltF g13
            obtain rfl := Option.some.inj q17
            refine st ?_
            simp [g4, g7, g10, g13]
            have r29 := ident_IsUpper_ok fuel s1.Unit v2 q3
            try simp [g4, g7, g10, g13] at r29
            refine callPure r29 (by simp) rfl ?_
            simp [g4, g7, g10, g13]
  rcases sp h with ⟨g18, h⟩ | ⟨g18, h⟩
  · refine condT rfl g18 ?_
    refine cut 39 0 [(2, .bool false)] [[.str s1.Unit, .int .i64 s1.Reason.Op, .str s1.Reason.Unit, .bool s1.Compiled, .int .i64 s1.Code, .bool s1.Same], [.int .i64 s1.Reason.Op, .str s1.Reason.Unit]] ?_ ?_
    · refine st ?_
      simp
    refine awp_ret ?_
    refine ret_seq ?_
    obtain rfl := Option.some.inj h
    simp
  · refine condF rfl g18 ?_
    refine awp_skip ?_
    refine seq_eq ?_
    refine awp_seq ?_
    refine cut 39 0 [(3, .mptr 1 0), (32, .bool (eqI s1.Reason.Op 4))] [[.str s1.Unit, .int .i64 s1.Reason.Op, .str s1.Reason.Unit, .bool s1.Compiled, .int .i64 s1.Code, .bool s1.Same], [.int .i64 s1.Reason.Op, .str s1.Reason.Unit]] ?_ ?_
    · refine st ?_
      simp
    rcases sp h with ⟨g19, h⟩ | ⟨g19, h⟩
    · have c20 := eqT g19
      refine condT rfl g19 ?_
      obtain ⟨v21, q22, h⟩ := bs h
      refine cut 39 0 [(2, .bool v21)] [[.str s1.Unit, .int .i64 s1.Reason.Op, .str s1.Reason.Unit, .bool s1.Compiled, .int .i64 s1.Code, .bool s1.Same], [.int .i64 s1.Reason.Op, .str s1.Reason.Unit]] ?_ ?_
      · refine st ?_
        simp
        have r23 := ident_IsUpper_ok fuel s1.Reason.Unit v21 q22
        try simp [] at r23
        refine callPure r23 (by simp) rfl ?_
        simp
      refine awp_ret ?_
      refine ret_seq ?_
      obtain rfl := Option.some.inj h
      simp
    · have c24 := eqF g19
      refine condF rfl g19 ?_
      refine awp_skip ?_
      refine seq_eq ?_
      refine cut 39 0 [(2, .bool (eqS s1.Reason.Unit ([] : List UInt8)))] [[.str s1.Unit, .int .i64 s1.Reason.Op, .str s1.Reason.Unit, .bool s1.Compiled, .int .i64 s1.Code, .bool s1.Same], [.int .i64 s1.Reason.Op, .str s1.Reason.Unit]] ?_ ?_
      · refine st ?_
        simp
      refine awp_ret ?_
      obtain rfl := Option.some.inj h
      simp
end Go.Proofs.YtlhikhaailhoaaaDoor
set_option linter.unusedVariables false
set_option linter.unusedSimpArgs false
set_option maxRecDepth 100000
set_option maxHeartbeats 1000000
namespace Go.Proofs.YtlhikhaailhoaaaDoor
open Go Go.Abs
theorem explain_reason_ok (r1 : Api.Reason) (r : (List UInt8)) (h : M.explain_reason r1 = some r) : Pure Tryd.prog 26 [.agg [.int .i64 r1.Op, .str r1.Unit]] (.str r) := by
  rw [M.explain_reason] at h
  refine pure_of_body Tryd.func26 (by rfl) (by rfl) (by simp) (by simp) (by simp) ?_
  refine cut 17 0 [(1, .mptr 0 0)] [[.int .i64 r1.Op, .str r1.Unit]] ?_ ?_
  · refine st ?_
    simp
  refine awp_seq ?_
  refine cut 17 0 [(1, .mptr 0 0), (4, .int .i64 r1.Op)] [[.int .i64 r1.Op, .str r1.Unit]] ?_ ?_
  · refine st ?_
    simp
  refine awp_block ?_
  refine cut 17 0 [(1, .mptr 0 0), (4, .int .i64 r1.Op), (5, .bool (eqI r1.Op 1))] [[.int .i64 r1.Op, .str r1.Unit]] ?_ ?_
  · refine st ?_
    simp
  rcases sp h with ⟨g2, h⟩ | ⟨g2, h⟩
  · have c3 := eqT g2
    refine condT rfl g2 ?_
    refine cut 17 0 [(2, .str [110, 101, 118, 101, 114, 32, 98, 117, 105, 108, 116])] [[.int .i64 r1.Op, .str r1.Unit]] ?_ ?_
    · refine st ?_
      simp
    refine awp_ret ?_
    refine ret_blk ?_
    refine ret_seq ?_
    obtain rfl := Option.some.inj h
    simp
  · have c4 := eqF g2
    refine condF rfl g2 ?_
    refine cut 17 0 [(1, .mptr 0 0), (4, .int .i64 r1.Op), (7, .bool (eqI r1.Op 2))] [[.int .i64 r1.Op, .str r1.Unit]] ?_ ?_
    · refine st ?_
      simp
    rcases sp h with ⟨g5, h⟩ | ⟨g5, h⟩
    · have c6 := eqT g5
      refine condT rfl g5 ?_
      refine cut 17 0 [(2, .str [110, 101, 119, 32, 115, 111, 117, 114, 99, 101])] [[.int .i64 r1.Op, .str r1.Unit]] ?_ ?_
      · refine st ?_
        simp
      refine awp_ret ?_
      refine ret_blk ?_
      refine ret_seq ?_
      obtain rfl := Option.some.inj h
      simp
    · have c7 := eqF g5
      refine condF rfl g5 ?_
      refine cut 17 0 [(1, .mptr 0 0), (4, .int .i64 r1.Op), (9, .bool (eqI r1.Op 3))] [[.int .i64 r1.Op, .str r1.Unit]] ?_ ?_
      · refine st ?_
        simp
      rcases sp h with ⟨g8, h⟩ | ⟨g8, h⟩
      · have c9 := eqT g8
        refine condT rfl g8 ?_
        refine cut 17 0 [(2, .str [111, 116, 104, 101, 114, 32, 105, 109, 112, 111, 114, 116, 115])] [[.int .i64 r1.Op, .str r1.Unit]] ?_ ?_
        · refine st ?_
          simp
        refine awp_ret ?_
        refine ret_blk ?_
        refine ret_seq ?_
        obtain rfl := Option.some.inj h
        simp
      · have c10 := eqF g8
        refine condF rfl g8 ?_
        refine cut 17 0 [(1, .mptr 0 0), (11, .bool (eqI r1.Op 4))] [[.int .i64 r1.Op, .str r1.Unit]] ?_ ?_
        · refine st ?_
          simp
        rcases sp h with ⟨g11, h⟩ | ⟨g11, h⟩
        · have c12 := eqT g11
          refine condT rfl g11 ?_
          obtain ⟨s13, q14, h⟩ := bs h
          obtain ⟨q15, q16⟩ := cat_ok q14
          try simp at q15
          try simp at q16
          obtain ⟨s17, q18, h⟩ := bs h
          obtain ⟨q19, q20⟩ := cat_ok q18
          try simp at q19
          try simp at q20
          refine cut 17 0 [(2, .str s17)] [[.int .i64 r1.Op, .str r1.Unit]] ?_ ?_
          · refine st ?_
            simp [q15, q16, q19, q20]
          refine awp_ret ?_
          refine ret_blk ?_
          refine ret_seq ?_
          obtain rfl := Option.some.inj h
          simp
        · have c21 := eqF g11
          refine condF rfl g11 ?_
          refine awp_skip ?_
          refine blk_n ?_
          refine seq_eq ?_
          refine cut 17 0 [(2, .str [110, 111, 116, 104, 105, 110, 103, 32, 104, 97, 115, 32, 99, 104, 97, 110, 103, 101, 100])] [[.int .i64 r1.Op, .str r1.Unit]] ?_ ?_
          · refine st ?_
            simp
          refine awp_ret ?_
          obtain rfl := Option.some.inj h
          simp
end Go.Proofs.YtlhikhaailhoaaaDoor
set_option linter.unusedVariables false
set_option linter.unusedSimpArgs false
set_option maxRecDepth 100000
set_option maxHeartbeats 1000000
namespace Go.Proofs.YtlhikhaailhoaaaDoor
open Go Go.Abs
theorem explain_either_ok (is1 : Bool) (yes2 : (List UInt8)) (no3 : (List UInt8)) (r : (List UInt8)) (h : M.explain_either is1 yes2 no3 = some r) : Pure Tryd.prog 27 [.bool is1, .str yes2, .str no3] (.str r) := by
  rw [M.explain_either] at h
  refine pure_of_body Tryd.func27 (by rfl) (by rfl) (by simp) (by simp) (by simp) ?_
  refine cut 10 0 [(0, .bool is1), (1, .str yes2), (2, .str no3)] [] ?_ ?_
  · refine st ?_
    simp
  refine awp_seq ?_
  refine cut 10 0 [(1, .str yes2), (2, .str no3), (7, .bool is1)] [] ?_ ?_
  · refine st ?_
    simp
  rcases sp h with ⟨g4, h⟩ | ⟨g4, h⟩
  · refine condT rfl g4 ?_
    refine cut 10 0 [(6, .str yes2)] [] ?_ ?_
    · refine st ?_
      simp
    refine awp_ret ?_
    refine ret_seq ?_
    obtain rfl := Option.some.inj h
    simp
  · refine condF rfl g4 ?_
    refine awp_skip ?_
    refine seq_eq ?_
    refine cut 10 0 [(6, .str no3)] [] ?_ ?_
    · refine st ?_
      simp
    refine awp_ret ?_
    obtain rfl := Option.some.inj h
    simp
end Go.Proofs.YtlhikhaailhoaaaDoor
set_option linter.unusedVariables false
set_option linter.unusedSimpArgs false
set_option maxRecDepth 100000
set_option maxHeartbeats 1000000
namespace Go.Proofs.YtlhikhaailhoaaaDoor
open Go Go.Abs
theorem explain_Step_ok (fuel : Nat) (s1 : Api.Step) (r : (List UInt8) × Int) (h : M.explain_Step fuel s1 = some r) : Pure Tryd.prog 12 [.agg [.str s1.Unit, .int .i64 s1.Reason.Op, .str s1.Reason.Unit, .bool s1.Compiled, .int .i64 s1.Code, .bool s1.Same]] (.tup [.str r.1, .int .i64 r.2]) := by
  rw [M.explain_Step] at h
  refine pure_of_body Tryd.func12 (by rfl) (by rfl) (by simp) (by simp) (by simp) ?_
  refine cut 27 0 [(1, .mptr 0 0)] [[.str s1.Unit, .int .i64 s1.Reason.Op, .str s1.Reason.Unit, .bool s1.Compiled, .int .i64 s1.Code, .bool s1.Same]] ?_ ?_
  · refine st ?_
    simp
  refine awp_seq ?_
  obtain ⟨v2, q3, h⟩ := bs h
  refine cut 27 0 [(1, .mptr 0 0), (7, .bool (!v2))] [[.str s1.Unit, .int .i64 s1.Reason.Op, .str s1.Reason.Unit, .bool s1.Compiled, .int .i64 s1.Code, .bool s1.Same]] ?_ ?_
  · refine st ?_
    simp
    have r30 := explain_valid_ok fuel s1 v2 q3
    try simp [] at r30
    refine callPure r30 (by simp) rfl ?_
    simp
  rcases sp h with ⟨g4, h⟩ | ⟨g4, h⟩
  · have g5 := notT g4
    refine condT rfl g4 ?_
    refine cut 27 0 [(2, .str ([] : List UInt8)), (3, .int .i64 1)] [[.str s1.Unit, .int .i64 s1.Reason.Op, .str s1.Reason.Unit, .bool s1.Compiled, .int .i64 s1.Code, .bool s1.Same]] ?_ ?_
    · refine st ?_
      simp
    refine awp_ret ?_
    refine ret_seq ?_
    obtain rfl := Option.some.inj h
    simp
  · have g6 := notF g4
    refine condF rfl g4 ?_
    refine awp_skip ?_
    refine seq_eq ?_
    obtain ⟨v7, q8, h⟩ := bs h
    obtain ⟨v9, q10, h⟩ := bs h
    obtain ⟨v11, q12, h⟩ := bs h
    obtain ⟨v13, q14, h⟩ := bs h
    refine cut 27 0 [(1, .mptr 0 0), (4, .osl ⟨1, 9⟩ ([v7, v9, v11, v13].map cS))] [[.str s1.Unit, .int .i64 s1.Reason.Op, .str s1.Reason.Unit, .bool s1.Compiled, .int .i64 s1.Code, .bool s1.Same]] ?_ ?_
    · refine awp_region_draw [] mixed (n := 27) rfl (by decide) ?_
      simp
      have r26 := explain_reason_ok s1.Reason v7 q8
      try simp [] at r26
      refine callD r26 (by simp) rfl ?_
      simp
      have r27 := explain_either_ok s1.Compiled [99, 111, 109, 112, 105, 108, 101, 100] [110, 111, 116, 32, 99, 111, 109, 112, 105, 108, 101, 100] v9 q10
      try simp [] at r27
      refine callD r27 (by simp) rfl ?_
      simp
      have r28 := explain_either_ok s1.Same [115, 97, 109, 101, 32, 105, 110, 116, 101, 114, 102, 97, 99, 101] [111, 116, 104, 101, 114, 32, 105, 110, 116, 101, 114, 102, 97, 99, 101] v11 q12
      try simp [] at r28
      refine callD r28 (by simp) rfl ?_
      simp
      have r29 := explain_Error_ok s1.Code v13 q14
      try simp [] at r29
      refine callD r29 (by simp) rfl ?_
      simp
    obtain ⟨s15, q16, h⟩ := bs h
    obtain ⟨q17, q18⟩ := cat_ok q16
    try simp at q17
    try simp at q18
    obtain ⟨v19, q20, h⟩ := bs h
    obtain ⟨s21, q22, h⟩ := bs h
    obtain ⟨q23, q24⟩ := cat_ok q22
    try simp at q23
    try simp at q24
    refine cut 27 0 [(2, .str s21), (3, .int .i64 0)] [[.str s1.Unit, .int .i64 s1.Reason.Op, .str s1.Reason.Unit, .bool s1.Compiled, .int .i64 s1.Code, .bool s1.Same]] ?_ ?_
    · refine awp_region_draw [] mixed (n := 27) rfl (by decide) ?_
      simp [q17, q18, q23, q24]
      have r25 := strings_Join_ok [v7, v9, v11, v13] [59, 32] v19 q20
      try simp [q17, q18, q23, q24] at r25
      refine callD r25 (by simp) rfl ?_
      simp [q17, q18, q23, q24]
    refine awp_ret ?_
    obtain rfl := Option.some.inj h
    simp
end Go.Proofs.YtlhikhaailhoaaaDoor
set_option linter.unusedVariables false
set_option linter.unusedSimpArgs false
set_option maxRecDepth 100000
set_option maxHeartbeats 1000000
namespace Go.Proofs.YtlhikhaailhoaaaDoor
open Go Go.Abs
theorem stringslite_HasPrefix_ok (s1 : (List UInt8)) (prefix2 : (List UInt8)) (r : Bool) (h : M.stringslite_HasPrefix s1 prefix2 = some r) : Pure Tryd.prog 62 [.str s1, .str prefix2] (.bool r) := by
  rw [M.stringslite_HasPrefix] at h
  refine pure_of_body Tryd.func62 (by rfl) (by rfl) (by simp) (by simp) (by simp) ?_
  refine cut 18 0 [(0, .str s1), (1, .str prefix2)] [] ?_ ?_
  · refine st ?_
    simp
  obtain ⟨b14, q15, h⟩ := bs h
  refine cut 18 0 [(4, .bool b14)] [] ?_ ?_
  · rcases sp q15 with ⟨g3, q15⟩ | ⟨g3, q15⟩
    · have c4 := leT g3
      refine factS 1 rfl fun f5 => ?_
      refine factS 0 rfl fun f6 => ?_
      obtain ⟨s7, q8, q15⟩ := bs q15
      obtain ⟨q9, q10⟩ := subC_ok q8
      try simp at q9
      try simp at q10
      obtain rfl := Option.some.inj q15
      refine st ?_
      simp [g3, q9, q10]
    · have c11 := leF g3
      refine factS 1 rfl fun f12 => ?_
      refine factS 0 rfl fun f13 => ?_
      obtain rfl := Option.some.inj q15
      refine st ?_
      simp [g3]
  refine awp_ret ?_
  obtain rfl := Option.some.inj h
  simp
end Go.Proofs.YtlhikhaailhoaaaDoor
set_option linter.unusedVariables false
set_option linter.unusedSimpArgs false
set_option maxRecDepth 100000
set_option maxHeartbeats 1000000
namespace Go.Proofs.YtlhikhaailhoaaaDoor
open Go Go.Abs
theorem stringslite_CutPrefix_ok (s1 : (List UInt8)) (prefix2 : (List UInt8)) (r : (List UInt8) × Bool) (h : M.stringslite_CutPrefix s1 prefix2 = some r) : Pure Tryd.prog 49 [.str s1, .str prefix2] (.tup [.str r.1, .bool r.2]) := by
  rw [M.stringslite_CutPrefix] at h
  refine pure_of_body Tryd.func49 (by rfl) (by rfl) (by simp) (by simp) (by simp) ?_
  refine cut 15 0 [(0, .str s1), (1, .str prefix2)] [] ?_ ?_
  · refine st ?_
    simp
  refine awp_seq ?_
  obtain ⟨v3, q4, h⟩ := bs h
  refine cut 15 0 [(0, .str s1), (1, .str prefix2), (9, .bool (!v3))] [] ?_ ?_
  · refine st ?_
    simp
    have r12 := stringslite_HasPrefix_ok s1 prefix2 v3 q4
    try simp [] at r12
    refine callPure r12 (by simp) rfl ?_
    simp
  rcases sp h with ⟨g5, h⟩ | ⟨g5, h⟩
  · have g6 := notT g5
    refine condT rfl g5 ?_
    refine cut 15 0 [(4, .str s1), (5, .bool false)] [] ?_ ?_
    · refine st ?_
      simp
    refine awp_ret ?_
    refine ret_seq ?_
    obtain rfl := Option.some.inj h
    simp
  · have g7 := notF g5
    refine condF rfl g5 ?_
    refine awp_skip ?_
    refine seq_eq ?_
    obtain ⟨s8, q9, h⟩ := bs h
    obtain ⟨q10, q11⟩ := subC_ok q9
    try simp at q10
    try simp at q11
    refine cut 15 0 [(4, .str s8), (5, .bool true)] [] ?_ ?_
    · refine st ?_
      simp [q10, q11]
    refine awp_ret ?_
    obtain rfl := Option.some.inj h
    simp
end Go.Proofs.YtlhikhaailhoaaaDoor
set_option linter.unusedVariables false
set_option linter.unusedSimpArgs false
set_option maxRecDepth 100000
set_option maxHeartbeats 1000000
namespace Go.Proofs.YtlhikhaailhoaaaDoor
open Go Go.Abs
theorem strings_CutPrefix_ok (s1 : (List UInt8)) (prefix2 : (List UInt8)) (r : (List UInt8) × Bool) (h : M.strings_CutPrefix s1 prefix2 = some r) : Pure Tryd.prog 39 [.str s1, .str prefix2] (.tup [.str r.1, .bool r.2]) := by
  rw [M.strings_CutPrefix] at h
  refine pure_of_body Tryd.func39 (by rfl) (by rfl) (by simp) (by simp) (by simp) ?_
  refine cut 11 0 [(0, .str s1), (1, .str prefix2)] [] ?_ ?_
  · refine st ?_
    simp
  obtain ⟨v3, q4, h⟩ := bs h
  refine cut 11 0 [(4, .str v3.1), (5, .bool v3.2)] [] ?_ ?_
  · refine st ?_
    simp
    have r5 := stringslite_CutPrefix_ok s1 prefix2 v3 q4
    try simp [] at r5
    refine callPure r5 (by simp) rfl ?_
    simp
  refine awp_ret ?_
  obtain rfl := Option.some.inj h
  simp
end Go.Proofs.YtlhikhaailhoaaaDoor
set_option linter.unusedVariables false
set_option linter.unusedSimpArgs false
set_option maxRecDepth 100000
set_option maxHeartbeats 1000000
namespace Go.Proofs.YtlhikhaailhoaaaDoor
open Go Go.Abs
theorem stringslite_HasSuffix_ok (s1 : (List UInt8)) (suffix2 : (List UInt8)) (r : Bool) (h : M.stringslite_HasSuffix s1 suffix2 = some r) : Pure Tryd.prog 63 [.str s1, .str suffix2] (.bool r) := by
  rw [M.stringslite_HasSuffix] at h
  refine pure_of_body Tryd.func63 (by rfl) (by rfl) (by simp) (by simp) (by simp) ?_
  refine cut 21 0 [(0, .str s1), (1, .str suffix2)] [] ?_ ?_
  · refine st ?_
    simp
  obtain ⟨b15, q16, h⟩ := bs h
  refine cut 21 0 [(4, .bool b15)] [] ?_ ?_
  · rcases sp q16 with ⟨g3, q16⟩ | ⟨g3, q16⟩
    · have c4 := leT g3
      refine factS 1 rfl fun f5 => ?_
      refine factS 0 rfl fun f6 => ?_
      have q7 : Rng .i64 ((s1.length : Int) - (suffix2.length : Int)) := by simp only [Rng, inR]; omega
      try simp at q7
      obtain ⟨s8, q9, q16⟩ := bs q16
      obtain ⟨q10, q11⟩ := subC_ok q9
      try simp at q10
      try simp at q11
      obtain rfl := Option.some.inj q16
      refine st ?_
      simp [g3, q7, q10, q11]
    · have c12 := leF g3
      refine factS 1 rfl fun f13 => ?_
      refine factS 0 rfl fun f14 => ?_
      obtain rfl := Option.some.inj q16
      refine st ?_
      simp [g3]
  refine awp_ret ?_
  obtain rfl := Option.some.inj h
  simp
end Go.Proofs.YtlhikhaailhoaaaDoor
set_option linter.unusedVariables false
set_option linter.unusedSimpArgs false
set_option maxRecDepth 100000
set_option maxHeartbeats 1000000
namespace Go.Proofs.YtlhikhaailhoaaaDoor
open Go Go.Abs
theorem stringslite_CutSuffix_ok (s1 : (List UInt8)) (suffix2 : (List UInt8)) (r : (List UInt8) × Bool) (h : M.stringslite_CutSuffix s1 suffix2 = some r) : Pure Tryd.prog 50 [.str s1, .str suffix2] (.tup [.str r.1, .bool r.2]) := by
  rw [M.stringslite_CutSuffix] at h
  refine pure_of_body Tryd.func50 (by rfl) (by rfl) (by simp) (by simp) (by simp) ?_
  refine cut 18 0 [(0, .str s1), (1, .str suffix2)] [] ?_ ?_
  · refine st ?_
    simp
  refine awp_seq ?_
  obtain ⟨v3, q4, h⟩ := bs h
  refine cut 18 0 [(0, .str s1), (1, .str suffix2), (9, .bool (!v3))] [] ?_ ?_
  · refine st ?_
    simp
    have r17 := stringslite_HasSuffix_ok s1 suffix2 v3 q4
    try simp [] at r17
    refine callPure r17 (by simp) rfl ?_
    simp
  rcases sp h with ⟨g5, h⟩ | ⟨g5, h⟩
  · have g6 := notT g5
    refine condT rfl g5 ?_
    refine cut 18 0 [(4, .str s1), (5, .bool false)] [] ?_ ?_
    · refine st ?_
      simp
    refine awp_ret ?_
    refine ret_seq ?_
    obtain rfl := Option.some.inj h
    simp
  · have g7 := notF g5
    refine condF rfl g5 ?_
    refine awp_skip ?_
    refine seq_eq ?_
    obtain ⟨n8, q9, h⟩ := bs h
    obtain ⟨q10, q11⟩ := chk_ok q9
    try simp at q10
    try simp at q11
    have c12 := q10; simp only [Rng, inR] at c12
    obtain ⟨s13, q14, h⟩ := bs h
    obtain ⟨q15, q16⟩ := subC_ok q14
    try simp at q15
    try simp at q16
    refine cut 18 0 [(4, .str s13), (5, .bool true)] [] ?_ ?_
    · refine st ?_
      simp [q10, q11, q15, q16]
    refine awp_ret ?_
    obtain rfl := Option.some.inj h
    simp
end Go.Proofs.YtlhikhaailhoaaaDoor
set_option linter.unusedVariables false
set_option linter.unusedSimpArgs false
set_option maxRecDepth 100000
set_option maxHeartbeats 1000000
namespace Go.Proofs.YtlhikhaailhoaaaDoor
open Go Go.Abs
theorem strings_CutSuffix_ok (s1 : (List UInt8)) (suffix2 : (List UInt8)) (r : (List UInt8) × Bool) (h : M.strings_CutSuffix s1 suffix2 = some r) : Pure Tryd.prog 40 [.str s1, .str suffix2] (.tup [.str r.1, .bool r.2]) := by
  rw [M.strings_CutSuffix] at h
  refine pure_of_body Tryd.func40 (by rfl) (by rfl) (by simp) (by simp) (by simp) ?_
  refine cut 11 0 [(0, .str s1), (1, .str suffix2)] [] ?_ ?_
  · refine st ?_
    simp
  obtain ⟨v3, q4, h⟩ := bs h
  refine cut 11 0 [(4, .str v3.1), (5, .bool v3.2)] [] ?_ ?_
  · refine st ?_
    simp
    have r5 := stringslite_CutSuffix_ok s1 suffix2 v3 q4
    try simp [] at r5
    refine callPure r5 (by simp) rfl ?_
    simp
  refine awp_ret ?_
  obtain rfl := Option.some.inj h
  simp
end Go.Proofs.YtlhikhaailhoaaaDoor
set_option linter.unusedVariables false
set_option linter.unusedSimpArgs false
set_option maxRecDepth 100000
set_option maxHeartbeats 1000000
namespace Go.Proofs.YtlhikhaailhoaaaDoor
open Go Go.Abs
theorem explain_parsed_ok (s1 : (List UInt8)) (r : Api.Reason) (h : M.explain_parsed s1 = some r) : Pure Tryd.prog 22 [.str s1] (.agg [.int .i64 r.Op, .str r.Unit]) := by
  rw [M.explain_parsed] at h
  refine pure_of_body Tryd.func22 (by rfl) (by rfl) (by simp) (by simp) (by simp) ?_
  refine cut 29 0 [(0, .str s1), (2, .mptr 0 0)] [[.int .i64 0, .str ([] : List UInt8)]] ?_ ?_
  · refine st ?_
    simp
  refine awp_seq ?_
  refine cut 29 0 [(0, .str s1), (2, .mptr 0 0), (5, .str s1)] [[.int .i64 0, .str ([] : List UInt8)]] ?_ ?_
  · refine st ?_
    simp
  refine awp_block ?_
  refine cut 29 0 [(0, .str s1), (2, .mptr 0 0), (5, .str s1), (6, .bool (eqS s1 [110, 101, 118, 101, 114, 32, 98, 117, 105, 108, 116]))] [[.int .i64 0, .str ([] : List UInt8)]] ?_ ?_
  · refine st ?_
    simp
  rcases sp h with ⟨g2, h⟩ | ⟨g2, h⟩
  · refine condT rfl g2 ?_
    refine cut 29 0 [(2, .mptr 0 0)] [[.int .i64 1, .str ([] : List UInt8)]] ?_ ?_
    · refine st ?_
      simp
    refine awp_ret ?_
    refine ret_blk ?_
    refine ret_seq ?_
    obtain rfl := Option.some.inj h
    simp
  · refine condF rfl g2 ?_
    refine cut 29 0 [(0, .str s1), (2, .mptr 0 0), (5, .str s1), (9, .bool (eqS s1 [110, 101, 119, 32, 115, 111, 117, 114, 99, 101]))] [[.int .i64 0, .str ([] : List UInt8)]] ?_ ?_
    · refine st ?_
      simp
    rcases sp h with ⟨g3, h⟩ | ⟨g3, h⟩
    · refine condT rfl g3 ?_
      refine cut 29 0 [(2, .mptr 0 0)] [[.int .i64 2, .str ([] : List UInt8)]] ?_ ?_
      · refine st ?_
        simp
      refine awp_ret ?_
      refine ret_blk ?_
      refine ret_seq ?_
      obtain rfl := Option.some.inj h
      simp
    · refine condF rfl g3 ?_
      refine cut 29 0 [(0, .str s1), (2, .mptr 0 0), (12, .bool (eqS s1 [111, 116, 104, 101, 114, 32, 105, 109, 112, 111, 114, 116, 115]))] [[.int .i64 0, .str ([] : List UInt8)]] ?_ ?_
      · refine st ?_
        simp
      rcases sp h with ⟨g4, h⟩ | ⟨g4, h⟩
      · refine condT rfl g4 ?_
        refine cut 29 0 [(2, .mptr 0 0)] [[.int .i64 3, .str ([] : List UInt8)]] ?_ ?_
        · refine st ?_
          simp
        refine awp_ret ?_
        refine ret_blk ?_
        refine ret_seq ?_
        obtain rfl := Option.some.inj h
        simp
      · refine condF rfl g4 ?_
        refine awp_skip ?_
        refine blk_n ?_
        refine seq_eq ?_
        refine awp_seq ?_
        obtain ⟨v5, q6, h⟩ := bs h
        refine cut 29 0 [(2, .mptr 0 0), (3, .str v5.1), (4, .bool v5.2)] [[.int .i64 0, .str ([] : List UInt8)]] ?_ ?_
        · refine st ?_
          simp
          have r11 := strings_CutPrefix_ok s1 [116, 104, 101, 32, 105, 110, 116, 101, 114, 102, 97, 99, 101, 32, 111, 102, 32] v5 q6
          try simp [] at r11
          refine callPure r11 (by simp) rfl ?_
          simp
        refine cut 29 0 [(2, .mptr 0 0), (3, .str v5.1), (20, .bool v5.2)] [[.int .i64 0, .str ([] : List UInt8)]] ?_ ?_
        · refine st ?_
          simp
        rcases sp h with ⟨g7, h⟩ | ⟨g7, h⟩
        · refine condT rfl g7 ?_
          obtain ⟨v8, q9, h⟩ := bs h
          refine cut 29 0 [(2, .mptr 0 0), (3, .str v8.1)] [[.int .i64 0, .str ([] : List UInt8)]] ?_ ?_
          · refine st ?_
            simp
            have r10 := strings_CutSuffix_ok v5.1 [32, 104, 97, 115, 32, 99, 104, 97, 110, 103, 101, 100] v8 q9
            try simp [] at r10
            refine callPure r10 (by simp) rfl ?_
            simp
          refine cut 29 0 [(2, .mptr 0 0)] [[.int .i64 4, .str v8.1]] ?_ ?_
          · refine st ?_
            simp
          refine awp_ret ?_
          refine ret_seq ?_
          obtain rfl := Option.some.inj h
          simp
        · refine condF rfl g7 ?_
          refine awp_skip ?_
          refine seq_eq ?_
          refine cut 29 0 [(2, .mptr 0 0)] [[.int .i64 0, .str ([] : List UInt8)]] ?_ ?_
          · refine st ?_
            simp
          refine awp_ret ?_
          obtain rfl := Option.some.inj h
          simp
end Go.Proofs.YtlhikhaailhoaaaDoor
set_option linter.unusedVariables false
set_option linter.unusedSimpArgs false
set_option maxRecDepth 100000
set_option maxHeartbeats 1000000
namespace Go.Proofs.YtlhikhaailhoaaaDoor
open Go Go.Abs
theorem explain_Parse_ok (fuel : Nat) (s1 : (List UInt8)) (r : Api.Step × Int) (h : M.explain_Parse fuel s1 = some r) : Pure Tryd.prog 7 [.str s1] (.tup [.agg [.str r.1.Unit, .int .i64 r.1.Reason.Op, .str r.1.Reason.Unit, .bool r.1.Compiled, .int .i64 r.1.Code, .bool r.1.Same], .int .i64 r.2]) := by
  rw [M.explain_Parse] at h
  refine pure_of_body Tryd.func7 (by rfl) (by rfl) (by simp) (by simp) (by simp) ?_
  refine cut 68 0 [(0, .str s1), (2, .mptr 0 0)] [[.str ([] : List UInt8), .int .i64 0, .str ([] : List UInt8), .bool false, .int .i64 0, .bool false]] ?_ ?_
  · refine st ?_
    simp
  refine awp_seq ?_
  refine cut 68 0 [(0, .str s1), (2, .mptr 0 0), (14, .bool (ltI 16384 (s1.length : Int)))] [[.str ([] : List UInt8), .int .i64 0, .str ([] : List UInt8), .bool false, .int .i64 0, .bool false]] ?_ ?_
  · refine st ?_
    simp
  rcases sp h with ⟨g2, h⟩ | ⟨g2, h⟩
  · have c3 := ltT g2
    refine condT rfl g2 ?_
    refine factS 0 rfl fun f4 => ?_
    refine cut 68 0 [(2, .mptr 0 0), (3, .int .i64 5)] [[.str ([] : List UInt8), .int .i64 0, .str ([] : List UInt8), .bool false, .int .i64 0, .bool false]] ?_ ?_
    · refine st ?_
      simp
    refine awp_ret ?_
    refine ret_seq ?_
    obtain rfl := Option.some.inj h
    simp
  · have c5 := ltF g2
    refine condF rfl g2 ?_
    refine factS 0 rfl fun f6 => ?_
    refine awp_skip ?_
    refine seq_eq ?_
    obtain ⟨v7, q8, h⟩ := bs h
    refine cut 68 0 [(0, .str s1), (2, .mptr 0 0), (4, .str v7.1), (5, .str v7.2.1)] [[.str ([] : List UInt8), .int .i64 0, .str ([] : List UInt8), .bool false, .int .i64 0, .bool false]] ?_ ?_
    · refine st ?_
      simp
      have r58 := strings_Cut_ok s1 [58, 32] v7 q8
      try simp [] at r58
      refine callPure r58 (by simp) rfl ?_
      simp
    obtain ⟨v9, q10, h⟩ := bs h
    refine cut 68 0 [(0, .str s1), (2, .mptr 0 0), (4, .str v7.1), (7, .sl (v9.map cS))] [[.str ([] : List UInt8), .int .i64 0, .str ([] : List UInt8), .bool false, .int .i64 0, .bool false]] ?_ ?_
    · refine st ?_
      simp
      have r57 := strings_Split_ok v7.2.1 [59, 32] v9 q10
      try simp [] at r57
      refine callPure r57 (by simp) rfl ?_
      simp
    refine awp_seq ?_
    refine cut 68 0 [(0, .str s1), (2, .mptr 0 0), (4, .str v7.1), (7, .sl (v9.map cS)), (26, .bool (!(eqI (v9.length : Int) 4)))] [[.str ([] : List UInt8), .int .i64 0, .str ([] : List UInt8), .bool false, .int .i64 0, .bool false]] ?_ ?_
    · refine st ?_
      simp
    rcases sp h with ⟨g11, h⟩ | ⟨g11, h⟩
    · have g12 := notT g11
      have c13 := eqF g12
      refine condT rfl g11 ?_
      refine cut 68 0 [(2, .mptr 0 0), (3, .int .i64 3)] [[.str ([] : List UInt8), .int .i64 0, .str ([] : List UInt8), .bool false, .int .i64 0, .bool false]] ?_ ?_
      · refine st ?_
        simp
      refine awp_ret ?_
      refine ret_seq ?_
      obtain rfl := Option.some.inj h
      simp
    · have g14 := notF g11
      have c15 := eqT g14
      refine condF rfl g11 ?_
      refine awp_skip ?_
      refine seq_eq ?_
      obtain ⟨x16, q17, h⟩ := bs h
      obtain ⟨v18, q19, h⟩ := bs h
      obtain ⟨x20, q21, h⟩ := bs h
      obtain ⟨x22, q23, h⟩ := bs h
      refine cut 68 0 [(0, .str s1), (2, .mptr 0 0), (7, .sl (v9.map cS)), (8, .mptr 1 0)] [[.str ([] : List UInt8), .int .i64 0, .str ([] : List UInt8), .bool false, .int .i64 0, .bool false], [.str v7.1, .int .i64 v18.Op, .str v18.Unit, .bool (eqS x20 [99, 111, 109, 112, 105, 108, 101, 100]), .int .i64 0, .bool (eqS x22 [115, 97, 109, 101, 32, 105, 110, 116, 101, 114, 102, 97, 99, 101])]] ?_ ?_
      · refine awp_region_draw [] mixed (n := 68) rfl (by decide) ?_
        simp [q17, q21, q23]
        have r56 := explain_parsed_ok x16 v18 q19
        try simp [q17, q21, q23] at r56
        refine callD r56 (by simp) rfl ?_
        simp [q17, q21, q23]
      refine awp_seq ?_
      refine cut 68 0 [(0, .str s1), (2, .mptr 0 0), (7, .sl (v9.map cS)), (8, .mptr 1 0), (9, .int .i64 0)] [[.str ([] : List UInt8), .int .i64 0, .str ([] : List UInt8), .bool false, .int .i64 0, .bool false], [.str v7.1, .int .i64 v18.Op, .str v18.Unit, .bool (eqS x20 [99, 111, 109, 112, 105, 108, 101, 100]), .int .i64 0, .bool (eqS x22 [115, 97, 109, 101, 32, 105, 110, 116, 101, 114, 102, 97, 99, 101])]] ?_ ?_
      · refine st ?_
        simp
      refine awp_block ?_
      obtain ⟨o26, l27, h⟩ := bs h
      refine awp_inv (fun p : Nat × Nat × Nat => mkS 68 0 [(0, .str s1), (2, .mptr 0 0), (7, .sl (v9.map cS)), (8, .mptr 1 0), (9, .int .i64 ((p.2.2 : Nat) : Int))] [[.str ([] : List UInt8), .int .i64 0, .str ([] : List UInt8), .bool false, .int .i64 0, .bool false], [.str v7.1, .int .i64 v18.Op, .str v18.Unit, .bool (eqS x20 [99, 111, 109, 112, 105, 108, 101, 100]), .int .i64 ((p.2.1 : Nat) : Int), .bool (eqS x22 [115, 97, 109, 101, 32, 105, 110, 116, 101, 114, 102, 97, 99, 101])]]) (fun p => M.explain_Parse_l1 v9 p.1 p.2.1 p.2.2 = some o26) (fun p => p.1) (fuel, 0, 0) l27 (le_mkS (by simp)) ?_
      rintro ⟨k28, Code24, e25⟩ l27
      dsimp only at l27 ⊢
      cases k28 with
      | zero =>
        rw [M.explain_Parse_l1] at l27; cases l27
      | succ k29 =>
        rw [M.explain_Parse_l1] at l27
        refine awp_seq ?_
        refine cut 68 0 [(0, .str s1), (2, .mptr 0 0), (7, .sl (v9.map cS)), (8, .mptr 1 0), (9, .int .i64 ((e25 : Nat) : Int)), (43, .bool (leI ((e25 : Nat) : Int) 30))] [[.str ([] : List UInt8), .int .i64 0, .str ([] : List UInt8), .bool false, .int .i64 0, .bool false], [.str v7.1, .int .i64 v18.Op, .str v18.Unit, .bool (eqS x20 [99, 111, 109, 112, 105, 108, 101, 100]), .int .i64 ((Code24 : Nat) : Int), .bool (eqS x22 [115, 97, 109, 101, 32, 105, 110, 116, 101, 114, 102, 97, 99, 101])]] ?_ ?_
        · refine st ?_
          simp
        rcases sp l27 with ⟨g30, l27⟩ | ⟨g30, l27⟩
        · have c31 := leT g30
          refine condT rfl g30 ?_
          refine awp_skip ?_
          refine seq_eq ?_
          refine awp_seq ?_
          refine awp_block ?_
          obtain ⟨v32, q33, l27⟩ := bs l27
          obtain ⟨x34, q35, l27⟩ := bs l27
          refine cut 68 0 [(0, .str s1), (2, .mptr 0 0), (7, .sl (v9.map cS)), (8, .mptr 1 0), (9, .int .i64 ((e25 : Nat) : Int)), (51, .bool (eqS v32 x34))] [[.str ([] : List UInt8), .int .i64 0, .str ([] : List UInt8), .bool false, .int .i64 0, .bool false], [.str v7.1, .int .i64 v18.Op, .str v18.Unit, .bool (eqS x20 [99, 111, 109, 112, 105, 108, 101, 100]), .int .i64 ((Code24 : Nat) : Int), .bool (eqS x22 [115, 97, 109, 101, 32, 105, 110, 116, 101, 114, 102, 97, 99, 101])]] ?_ ?_
          · refine awp_region_draw [] mixed (n := 68) rfl (by decide) ?_
            simp [q35]
            have r39 := explain_Error_ok ((e25 : Nat) : Int) v32 q33
            try simp [q35] at r39
            refine callD r39 (by simp) rfl ?_
            simp [q35]
          rcases sp l27 with ⟨g36, l27⟩ | ⟨g36, l27⟩
          · refine condT rfl g36 ?_
            refine last 68 0 [(0, .str s1), (2, .mptr 0 0), (7, .sl (v9.map cS)), (8, .mptr 1 0), (9, .int .i64 ((e25 : Nat) : Int))] [[.str ([] : List UInt8), .int .i64 0, .str ([] : List UInt8), .bool false, .int .i64 0, .bool false], [.str v7.1, .int .i64 v18.Op, .str v18.Unit, .bool (eqS x20 [99, 111, 109, 112, 105, 108, 101, 100]), .int .i64 ((e25 : Nat) : Int), .bool (eqS x22 [115, 97, 109, 101, 32, 105, 110, 116, 101, 114, 102, 97, 99, 101])]] ?_ fun zz hs => ?_
            · refine st ?_
              simp
            refine blk_n ?_
            refine seq_le ?_ hs
            have q37 : Rng .i64 (((e25 : Nat) : Int) + 1) := by simp only [Rng, inR]; omega
            try simp at q37
            refine last 68 0 [(0, .str s1), (2, .mptr 0 0), (7, .sl (v9.map cS)), (8, .mptr 1 0), (9, .int .i64 ((e25 + 1 : Nat) : Int))] [[.str ([] : List UInt8), .int .i64 0, .str ([] : List UInt8), .bool false, .int .i64 0, .bool false], [.str v7.1, .int .i64 v18.Op, .str v18.Unit, .bool (eqS x20 [99, 111, 109, 112, 105, 108, 101, 100]), .int .i64 ((e25 : Nat) : Int), .bool (eqS x22 [115, 97, 109, 101, 32, 105, 110, 116, 101, 114, 102, 97, 99, 101])]] ?_ fun zz hs => ?_
            · refine st ?_
              simp [q37]
            exact ⟨(k29, e25, e25 + 1), hs, l27, by simp⟩
          · refine condF rfl g36 ?_
            refine awp_skip ?_
            refine blk_n ?_
            refine seq_eq ?_
            have q38 : Rng .i64 (((e25 : Nat) : Int) + 1) := by simp only [Rng, inR]; omega
            try simp at q38
            refine last 68 0 [(0, .str s1), (2, .mptr 0 0), (7, .sl (v9.map cS)), (8, .mptr 1 0), (9, .int .i64 ((e25 + 1 : Nat) : Int))] [[.str ([] : List UInt8), .int .i64 0, .str ([] : List UInt8), .bool false, .int .i64 0, .bool false], [.str v7.1, .int .i64 v18.Op, .str v18.Unit, .bool (eqS x20 [99, 111, 109, 112, 105, 108, 101, 100]), .int .i64 ((Code24 : Nat) : Int), .bool (eqS x22 [115, 97, 109, 101, 32, 105, 110, 116, 101, 114, 102, 97, 99, 101])]] ?_ fun zz hs => ?_
            · refine st ?_
              simp [q38]
            exact ⟨(k29, Code24, e25 + 1), hs, l27, by simp⟩
        · have c40 := leF g30
          refine condF rfl g30 ?_
          refine awp_exit ?_
          refine exit_seq ?_
          have q41 := Option.some.inj l27
          have q41 := q41.symm
          refine exit_seq ?_
          refine exit_blk ?_
          refine seq_le (t := mkS 68 0 [(0, .str s1), (2, .mptr 0 0), (8, .mptr 1 0)] [[.str ([] : List UInt8), .int .i64 0, .str ([] : List UInt8), .bool false, .int .i64 0, .bool false], [.str v7.1, .int .i64 v18.Op, .str v18.Unit, .bool (eqS x20 [99, 111, 109, 112, 105, 108, 101, 100]), .int .i64 o26, .bool (eqS x22 [115, 97, 109, 101, 32, 105, 110, 116, 101, 114, 102, 97, 99, 101])]]) ?_ (le_mkS (by simp [q41]))
          refine awp_seq ?_
          obtain ⟨v42, q43, h⟩ := bs h
          refine cut 68 0 [(0, .str s1), (2, .mptr 0 0), (8, .mptr 1 0), (10, .str v42.1), (11, .int .i64 v42.2)] [[.str ([] : List UInt8), .int .i64 0, .str ([] : List UInt8), .bool false, .int .i64 0, .bool false], [.str v7.1, .int .i64 v18.Op, .str v18.Unit, .bool (eqS x20 [99, 111, 109, 112, 105, 108, 101, 100]), .int .i64 o26, .bool (eqS x22 [115, 97, 109, 101, 32, 105, 110, 116, 101, 114, 102, 97, 99, 101])]] ?_ ?_
          · refine st ?_
            simp
            have r55 := explain_Step_ok fuel (Api.Step.mk v7.1 v18 (eqS x20 [99, 111, 109, 112, 105, 108, 101, 100]) o26 (eqS x22 [115, 97, 109, 101, 32, 105, 110, 116, 101, 114, 102, 97, 99, 101])) v42 q43
            try simp [] at r55
            refine callPure r55 (by simp) rfl ?_
            simp
          refine cut 68 0 [(2, .mptr 0 0), (8, .mptr 1 0), (65, .bool ((!(eqI v42.2 0)) || (!(eqS v42.1 s1))))] [[.str ([] : List UInt8), .int .i64 0, .str ([] : List UInt8), .bool false, .int .i64 0, .bool false], [.str v7.1, .int .i64 v18.Op, .str v18.Unit, .bool (eqS x20 [99, 111, 109, 112, 105, 108, 101, 100]), .int .i64 o26, .bool (eqS x22 [115, 97, 109, 101, 32, 105, 110, 116, 101, 114, 102, 97, 99, 101])]] ?_ ?_
          · rcases tf (!(eqI v42.2 0)) with g44 | g44
            · have g45 := notT g44
              have c46 := eqF g45
              refine st ?_
              simp [g44]
            · have g47 := notF g44
              have c48 := eqT g47
              refine st ?_
              simp [g44]
          rcases sp h with ⟨g49, h⟩ | ⟨g49, h⟩
          · refine condT rfl g49 ?_
            refine cut 68 0 [(2, .mptr 0 0), (3, .int .i64 3)] [[.str ([] : List UInt8), .int .i64 0, .str ([] : List UInt8), .bool false, .int .i64 0, .bool false], [.str v7.1, .int .i64 v18.Op, .str v18.Unit, .bool (eqS x20 [99, 111, 109, 112, 105, 108, 101, 100]), .int .i64 o26, .bool (eqS x22 [115, 97, 109, 101, 32, 105, 110, 116, 101, 114, 102, 97, 99, 101])]] ?_ ?_
            · refine st ?_
              simp
            refine awp_ret ?_
            refine ret_seq ?_
            obtain rfl := Option.some.inj h
            simp
          · obtain ⟨g50, g51⟩ := orF g49
            have g52 := notF g50
            have c53 := eqT g52
            have g54 := notF g51
            refine condF rfl g49 ?_
            refine awp_skip ?_
            refine seq_eq ?_
            refine cut 68 0 [(2, .mptr 0 0), (3, .int .i64 0)] [[.str v7.1, .int .i64 v18.Op, .str v18.Unit, .bool (eqS x20 [99, 111, 109, 112, 105, 108, 101, 100]), .int .i64 o26, .bool (eqS x22 [115, 97, 109, 101, 32, 105, 110, 116, 101, 114, 102, 97, 99, 101])], [.str v7.1, .int .i64 v18.Op, .str v18.Unit, .bool (eqS x20 [99, 111, 109, 112, 105, 108, 101, 100]), .int .i64 o26, .bool (eqS x22 [115, 97, 109, 101, 32, 105, 110, 116, 101, 114, 102, 97, 99, 101])]] ?_ ?_
            · refine st ?_
              simp
            refine awp_ret ?_
            obtain rfl := Option.some.inj h
            simp
end Go.Proofs.YtlhikhaailhoaaaDoor
set_option linter.unusedVariables false
set_option linter.unusedSimpArgs false
set_option maxRecDepth 100000
set_option maxHeartbeats 1000000
namespace Go.Proofs.YtlhikhaailhoaaaDoor
open Go Go.Abs
theorem law55_awake_ok (fuel : Nat) (r : Bool) (h : M.law55_awake fuel = some r) : Pure Tryd.prog 6 [] (.bool r) := by
  rw [M.law55_awake] at h
  refine pure_of_body Tryd.func6 (by rfl) (by rfl) (by simp) (by simp) (by simp) ?_
  refine cut 33 0 [] [] ?_ ?_
  · refine st ?_
    simp
  refine cut 33 0 [(1, .mptr 0 0)] [[.str [65], .int .i64 4, .str [66], .bool true, .int .i64 0, .bool true]] ?_ ?_
  · refine st ?_
    simp
  obtain ⟨v1, q2, h⟩ := bs h
  refine cut 33 0 [(1, .mptr 0 0), (2, .str v1.1), (3, .int .i64 v1.2)] [[.str [65], .int .i64 4, .str [66], .bool true, .int .i64 0, .bool true]] ?_ ?_
  · refine st ?_
    simp
    have r11 := explain_Step_ok fuel (Api.Step.mk [65] (Api.Reason.mk 4 [66]) true 0 true) v1 q2
    try simp [] at r11
    refine callPure r11 (by simp) rfl ?_
    simp
  obtain ⟨v3, q4, h⟩ := bs h
  refine cut 33 0 [(1, .mptr 0 0), (2, .str v1.1), (3, .int .i64 v1.2), (4, .mptr 1 0), (5, .int .i64 v3.2)] [[.str [65], .int .i64 4, .str [66], .bool true, .int .i64 0, .bool true], [.str v3.1.Unit, .int .i64 v3.1.Reason.Op, .str v3.1.Reason.Unit, .bool v3.1.Compiled, .int .i64 v3.1.Code, .bool v3.1.Same]] ?_ ?_
  · refine st ?_
    simp
    have r10 := explain_Parse_ok fuel v1.1 v3 q4
    try simp [] at r10
    refine callPure r10 (by simp) rfl ?_
    simp
  refine cut 33 0 [(0, .bool ((eqS v1.1 [65, 58, 32, 116, 104, 101, 32, 105, 110, 116, 101, 114, 102, 97, 99, 101, 32, 111, 102, 32, 66, 32, 104, 97, 115, 32, 99, 104, 97, 110, 103, 101, 100, 59, 32, 99, 111, 109, 112, 105, 108, 101, 100, 59, 32, 115, 97, 109, 101, 32, 105, 110, 116, 101, 114, 102, 97, 99, 101, 59, 32, 110, 111, 32, 101, 114, 114, 111, 114]) && ((eqI v1.2 0) && (((eqS v3.1.Unit [65]) && (((eqI v3.1.Reason.Op 4) && (eqS v3.1.Reason.Unit [66])) && ((eqB v3.1.Compiled true) && ((eqI v3.1.Code 0) && (eqB v3.1.Same true))))) && (eqI v3.2 0)))))] [[.str [65], .int .i64 4, .str [66], .bool true, .int .i64 0, .bool true], [.str v3.1.Unit, .int .i64 v3.1.Reason.Op, .str v3.1.Reason.Unit, .bool v3.1.Compiled, .int .i64 v3.1.Code, .bool v3.1.Same]] ?_ ?_
  · rcases tf (eqS v1.1 [65, 58, 32, 116, 104, 101, 32, 105, 110, 116, 101, 114, 102, 97, 99, 101, 32, 111, 102, 32, 66, 32, 104, 97, 115, 32, 99, 104, 97, 110, 103, 101, 100, 59, 32, 99, 111, 109, 112, 105, 108, 101, 100, 59, 32, 115, 97, 109, 101, 32, 105, 110, 116, 101, 114, 102, 97, 99, 101, 59, 32, 110, 111, 32, 101, 114, 114, 111, 114]) with g5 | g5
    · rcases tf (eqI v1.2 0) with g6 | g6
      · have c7 := eqT g6
        rcases tf ((eqS v3.1.Unit [65]) && (((eqI v3.1.Reason.Op 4) && (eqS v3.1.Reason.Unit [66])) && ((eqB v3.1.Compiled true) && ((eqI v3.1.Code 0) && (eqB v3.1.Same true))))) with g8 | g8
        · refine st ?_
          simp [g5, g6, g8]
        · refine st ?_
          simp [g5, g6, g8]
      · have c9 := eqF g6
        refine st ?_
        simp [g5, g6]
    · refine st ?_
      simp [g5]
  refine awp_ret ?_
  obtain rfl := Option.some.inj h
  simp
end Go.Proofs.YtlhikhaailhoaaaDoor
set_option linter.unusedVariables false
set_option linter.unusedSimpArgs false
set_option maxRecDepth 100000
set_option maxHeartbeats 1000000
namespace Go.Proofs.YtlhikhaailhoaaaDoor
open Go Go.Abs
theorem ref55_Errors_ok (r : (List (List UInt8))) (h : M.ref55_Errors = some r) : Pure Tryd.prog 24 [] (.sl (r.map cS)) := by
  rw [M.ref55_Errors] at h
  refine pure_of_body Tryd.func24 (by rfl) (by rfl) (by simp) (by simp) (by simp) ?_
  refine cut 2 0 [] [] ?_ ?_
  · refine st ?_
    simp
  obtain ⟨l1, q2, h⟩ := bs h
  obtain ⟨q3, q4⟩ := lit_ok q2
  refine cut 2 0 [(0, .osl ⟨1, 9⟩ (l1.map cS))] [] ?_ ?_
  · refine st ?_
    simp [q3, q4]
  refine awp_ret ?_
  obtain rfl := Option.some.inj h
  simp
end Go.Proofs.YtlhikhaailhoaaaDoor
set_option linter.unusedVariables false
set_option linter.unusedSimpArgs false
set_option maxRecDepth 100000
set_option maxHeartbeats 1000000
namespace Go.Proofs.YtlhikhaailhoaaaDoor
open Go Go.Abs
theorem ref55_Error_ok (e1 : Int) (r : (List UInt8)) (h : M.ref55_Error e1 = some r) : Pure Tryd.prog 10 [.int .i64 e1] (.str r) := by
  rw [M.ref55_Error] at h
  refine pure_of_body Tryd.func10 (by rfl) (by rfl) (by simp) (by simp) (by simp) ?_
  refine cut 17 0 [(0, .int .i64 e1)] [] ?_ ?_
  · refine st ?_
    simp
  obtain ⟨v2, q3, h⟩ := bs h
  refine cut 17 0 [(0, .int .i64 e1), (3, .sl (v2.map cS))] [] ?_ ?_
  · refine st ?_
    simp
    have r17 := ref55_Errors_ok v2 q3
    try simp [] at r17
    refine callPure r17 (by simp) rfl ?_
    simp
  refine awp_seq ?_
  refine cut 17 0 [(0, .int .i64 e1), (3, .sl (v2.map cS)), (12, .bool ((ltI e1 0) || (leI (v2.length : Int) e1)))] [] ?_ ?_
  · rcases tf (ltI e1 0) with g4 | g4
    · have c5 := ltT g4
      refine st ?_
      simp [g4]
    · have c6 := ltF g4
      refine st ?_
      simp [g4]
  rcases sp h with ⟨g7, h⟩ | ⟨g7, h⟩
  · refine condT rfl g7 ?_
    refine cut 17 0 [(2, .str [117, 110, 107, 110, 111, 119, 110, 32, 101, 114, 114, 111, 114])] [] ?_ ?_
    · refine st ?_
      simp
    refine awp_ret ?_
    refine ret_seq ?_
    obtain rfl := Option.some.inj h
    simp
  · obtain ⟨g8, g9⟩ := orF g7
    have c10 := ltF g8
    have c11 := leF g9
    refine condF rfl g7 ?_
    refine factL 3 rfl fun f12 => ?_
    rw [List.length_map] at f12
    refine awp_skip ?_
    refine seq_eq ?_
    obtain ⟨x13, q14, h⟩ := bs h
    obtain ⟨q15, q16⟩ := idx_ok q14
    refine cut 17 0 [(2, .str x13)] [] ?_ ?_
    · refine st ?_
      simp [q15, q16]
    refine awp_ret ?_
    obtain rfl := Option.some.inj h
    simp
end Go.Proofs.YtlhikhaailhoaaaDoor
set_option linter.unusedVariables false
set_option linter.unusedSimpArgs false
set_option maxRecDepth 100000
set_option maxHeartbeats 1000000
namespace Go.Proofs.YtlhikhaailhoaaaDoor
open Go Go.Abs
theorem ref55_split_ok (fuel : Nat) (s1 : (List UInt8)) (mark2 : (List UInt8)) (r : (List UInt8) × (List UInt8) × Bool) (h : M.ref55_split fuel s1 mark2 = some r) : Pure Tryd.prog 23 [.str s1, .str mark2] (.tup [.str r.1, .str r.2.1, .bool r.2.2]) := by
  rw [M.ref55_split] at h
  refine pure_of_body Tryd.func23 (by rfl) (by rfl) (by simp) (by simp) (by simp) ?_
  refine cut 36 0 [(0, .str s1), (1, .str mark2)] [] ?_ ?_
  · refine st ?_
    simp
  refine awp_seq ?_
  refine cut 36 0 [(0, .str s1), (1, .str mark2), (7, .int .i64 0)] [] ?_ ?_
  · refine st ?_
    simp
  refine awp_block ?_
  obtain ⟨o5, l6, h⟩ := bs h
  refine awp_inv (fun p : Nat × Int => mkS 36 0 [(0, .str s1), (1, .str mark2), (7, .int .i64 p.2)] []) (fun p => M.ref55_split_l1 s1 mark2 p.1 p.2 = some o5 ∧ 0 ≤ p.2) (fun p => p.1) (fuel, 0) ⟨l6, by (try dsimp only); omega⟩ (le_mkS (by simp)) ?_
  rintro ⟨k8, i3⟩ ⟨l6, c7⟩
  dsimp only at l6 c7 ⊢
  cases k8 with
  | zero =>
    rw [M.ref55_split_l1] at l6; cases l6
  | succ k9 =>
    rw [M.ref55_split_l1] at l6
    refine awp_seq ?_
    obtain ⟨n10, q11, l6⟩ := bs l6
    obtain ⟨q12, q13⟩ := chk_ok q11
    try simp at q12
    try simp at q13
    have c14 := q12; simp only [Rng, inR] at c14
    refine cut 36 0 [(0, .str s1), (1, .str mark2), (7, .int .i64 i3), (14, .bool (leI n10 (s1.length : Int)))] [] ?_ ?_
    · refine st ?_
      simp [q12, q13]
    rcases sp l6 with ⟨g15, l6⟩ | ⟨g15, l6⟩
    · have c16 := leT g15
      refine condT rfl g15 ?_
      refine factS 0 rfl fun f17 => ?_
      refine awp_skip ?_
      refine seq_eq ?_
      refine awp_seq ?_
      refine awp_block ?_
      have c18 := q12; simp only [Rng, inR] at c18
      obtain ⟨s19, q20, l6⟩ := bs l6
      obtain ⟨q21, q22⟩ := subC_ok q20
      try simp at q21
      try simp at q22
      refine cut 36 0 [(0, .str s1), (1, .str mark2), (7, .int .i64 i3), (25, .bool (eqS s19 mark2))] [] ?_ ?_
      · refine st ?_
        simp [q12, q13, q21, q22]
      rcases sp l6 with ⟨g23, l6⟩ | ⟨g23, l6⟩
      · refine condT rfl g23 ?_
        obtain ⟨s24, q25, l6⟩ := bs l6
        obtain ⟨q26, q27⟩ := subC_ok q25
        try simp at q26
        try simp at q27
        have c28 := q12; simp only [Rng, inR] at c28
        obtain ⟨s29, q30, l6⟩ := bs l6
        obtain ⟨q31, q32⟩ := subC_ok q30
        try simp at q31
        try simp at q32
        refine cut 36 0 [(4, .str s24), (5, .str s29), (6, .bool true)] [] ?_ ?_
        · refine awp_region_draw [999] mixed (n := 36) rfl (by decide) ?_
          simp [q26, q27, q12, q13, q31, q32]
        refine awp_ret ?_
        refine ret_blk ?_
        refine ret_seq ?_
        replace h := retL l6 h
        refine ret_seq ?_
        refine ret_blk ?_
        refine ret_seq ?_
        obtain rfl := Option.some.inj h
        simp
      · refine condF rfl g23 ?_
        refine awp_skip ?_
        refine blk_n ?_
        refine seq_eq ?_
        obtain ⟨n33, q34, l6⟩ := bs l6
        obtain ⟨q35, q36⟩ := chk_ok q34
        try simp at q35
        try simp at q36
        have c37 := q35; simp only [Rng, inR] at c37
        refine last 36 0 [(0, .str s1), (1, .str mark2), (7, .int .i64 n33)] [] ?_ fun zz hs => ?_
        · refine st ?_
          simp [q35, q36]
        exact ⟨(k9, n33), hs, ⟨l6, by (try dsimp only); omega⟩, by simp⟩
    · have c38 := leF g15
      refine condF rfl g15 ?_
      refine factS 0 rfl fun f39 => ?_
      refine awp_exit ?_
      refine exit_seq ?_
      rcases o5 with o5 | o4
      · cases l6
      have q40 := Sum.inr.inj (Option.some.inj l6)
      replace h := elimR h
      refine exit_seq ?_
      refine exit_blk ?_
      refine seq_le (t := mkS 36 0 [(0, .str s1)] []) ?_ (le_mkS (by simp []))
      refine cut 36 0 [(4, .str s1), (5, .str ([] : List UInt8)), (6, .bool false)] [] ?_ ?_
      · refine st ?_
        simp
      refine awp_ret ?_
      obtain rfl := Option.some.inj h
      simp
end Go.Proofs.YtlhikhaailhoaaaDoor
set_option linter.unusedVariables false
set_option linter.unusedSimpArgs false
set_option maxRecDepth 100000
set_option maxHeartbeats 1000000
namespace Go.Proofs.YtlhikhaailhoaaaDoor
open Go Go.Abs
theorem ref01_Capital_ok (c1 : UInt8) (r : Bool) (h : M.ref01_Capital c1 = some r) : Pure Tryd.prog 46 [.int .u8 (c1.toNat : Int)] (.bool r) := by
  rw [M.ref01_Capital] at h
  refine pure_of_body Tryd.func46 (by rfl) (by rfl) (by simp) (by simp) (by simp) ?_
  refine cut 9 0 [(0, .int .u8 (c1.toNat : Int))] [] ?_ ?_
  · refine st ?_
    simp
  refine cut 9 0 [(2, .bool ((leI 65 (c1.toNat : Int)) && (leI (c1.toNat : Int) 90)))] [] ?_ ?_
  · rcases tf (leI 65 (c1.toNat : Int)) with g2 | g2
    · have c3 := leT g2
      refine st ?_
      simp [g2]
    · have c4 := leF g2
      refine st ?_
      simp [g2]
  refine awp_ret ?_
  obtain rfl := Option.some.inj h
  simp
end Go.Proofs.YtlhikhaailhoaaaDoor
set_option linter.unusedVariables false
set_option linter.unusedSimpArgs false
set_option maxRecDepth 100000
set_option maxHeartbeats 1000000
namespace Go.Proofs.YtlhikhaailhoaaaDoor
open Go Go.Abs
theorem ref01_Small_ok (c1 : UInt8) (r : Bool) (h : M.ref01_Small c1 = some r) : Pure Tryd.prog 70 [.int .u8 (c1.toNat : Int)] (.bool r) := by
  rw [M.ref01_Small] at h
  refine pure_of_body Tryd.func70 (by rfl) (by rfl) (by simp) (by simp) (by simp) ?_
  refine cut 9 0 [(0, .int .u8 (c1.toNat : Int))] [] ?_ ?_
  · refine st ?_
    simp
  refine cut 9 0 [(2, .bool ((leI 97 (c1.toNat : Int)) && (leI (c1.toNat : Int) 122)))] [] ?_ ?_
  · rcases tf (leI 97 (c1.toNat : Int)) with g2 | g2
    · have c3 := leT g2
      refine st ?_
      simp [g2]
    · have c4 := leF g2
      refine st ?_
      simp [g2]
  refine awp_ret ?_
  obtain rfl := Option.some.inj h
  simp
end Go.Proofs.YtlhikhaailhoaaaDoor
set_option linter.unusedVariables false
set_option linter.unusedSimpArgs false
set_option maxRecDepth 100000
set_option maxHeartbeats 1000000
namespace Go.Proofs.YtlhikhaailhoaaaDoor
open Go Go.Abs
theorem ref01_Digit_ok (c1 : UInt8) (r : Bool) (h : M.ref01_Digit c1 = some r) : Pure Tryd.prog 71 [.int .u8 (c1.toNat : Int)] (.bool r) := by
  rw [M.ref01_Digit] at h
  refine pure_of_body Tryd.func71 (by rfl) (by rfl) (by simp) (by simp) (by simp) ?_
  refine cut 9 0 [(0, .int .u8 (c1.toNat : Int))] [] ?_ ?_
  · refine st ?_
    simp
  refine cut 9 0 [(2, .bool ((leI 48 (c1.toNat : Int)) && (leI (c1.toNat : Int) 57)))] [] ?_ ?_
  · rcases tf (leI 48 (c1.toNat : Int)) with g2 | g2
    · have c3 := leT g2
      refine st ?_
      simp [g2]
    · have c4 := leF g2
      refine st ?_
      simp [g2]
  refine awp_ret ?_
  obtain rfl := Option.some.inj h
  simp
end Go.Proofs.YtlhikhaailhoaaaDoor
set_option linter.unusedVariables false
set_option linter.unusedSimpArgs false
set_option maxRecDepth 100000
set_option maxHeartbeats 1000000
namespace Go.Proofs.YtlhikhaailhoaaaDoor
open Go Go.Abs
theorem ref01_Inner_ok (c1 : UInt8) (r : Bool) (h : M.ref01_Inner c1 = some r) : Pure Tryd.prog 68 [.int .u8 (c1.toNat : Int)] (.bool r) := by
  rw [M.ref01_Inner] at h
  refine pure_of_body Tryd.func68 (by rfl) (by rfl) (by simp) (by simp) (by simp) ?_
  refine cut 17 0 [(0, .int .u8 (c1.toNat : Int))] [] ?_ ?_
  · refine st ?_
    simp
  obtain ⟨b11, q12, h⟩ := bs h
  refine cut 17 0 [(2, .bool b11)] [] ?_ ?_
  · obtain ⟨v2, q3, q12⟩ := bs q12
    rcases sp q12 with ⟨g4, q12⟩ | ⟨g4, q12⟩
    · obtain rfl := Option.some.inj q12
      refine st ?_
      simp [g4]
      have r13 := ref01_Small_ok c1 v2 q3
      try simp [g4] at r13
      refine callPure r13 (by simp) rfl ?_
      simp [g4]
    · obtain ⟨v5, q6, q12⟩ := bs q12
      rcases sp q12 with ⟨g7, q12⟩ | ⟨g7, q12⟩
      · obtain rfl := Option.some.inj q12
        refine st ?_
        simp [g4, g7]
        have r14 := ref01_Small_ok c1 v2 q3
        try simp [g4, g7] at r14
        refine callPure r14 (by simp) rfl ?_
        simp [g4, g7]
        have r15 := ref01_Capital_ok c1 v5 q6
        try simp [g4, g7] at r15
        refine callPure r15 (by simp) rfl ?_
        simp [g4, g7]
      · obtain ⟨v8, q9, q12⟩ := bs q12
        rcases sp q12 with ⟨g10, q12⟩ | ⟨g10, q12⟩
        · obtain rfl := Option.some.inj q12
          refine st ?_
          simp [g4, g7, g10]
          have r16 := ref01_Small_ok c1 v2 q3
          try simp [g4, g7, g10] at r16
          refine callPure r16 (by simp) rfl ?_
          simp [g4, g7, g10]
          have r17 := ref01_Capital_ok c1 v5 q6
          try simp [g4, g7, g10] at r17
          refine callPure r17 (by simp) rfl ?_
          simp [g4, g7, g10]
          have r18 := ref01_Digit_ok c1 v8 q9
          try simp [g4, g7, g10] at r18
          refine callPure r18 (by simp) rfl ?_
          simp [g4, g7, g10]
        · obtain rfl := Option.some.inj q12
          refine st ?_
          simp [g4, g7, g10]
          have r19 := ref01_Small_ok c1 v2 q3
          try simp [g4, g7, g10] at r19
          refine callPure r19 (by simp) rfl ?_
          simp [g4, g7, g10]
          have r20 := ref01_Capital_ok c1 v5 q6
          try simp [g4, g7, g10] at r20
          refine callPure r20 (by simp) rfl ?_
          simp [g4, g7, g10]
          have r21 := ref01_Digit_ok c1 v8 q9
          try simp [g4, g7, g10] at r21
          refine callPure r21 (by simp) rfl ?_
          simp [g4, g7, g10]
  refine awp_ret ?_
  obtain rfl := Option.some.inj h
  simp
end Go.Proofs.YtlhikhaailhoaaaDoor
set_option linter.unusedVariables false
set_option linter.unusedSimpArgs false
set_option maxRecDepth 100000
set_option maxHeartbeats 1000000
namespace Go.Proofs.YtlhikhaailhoaaaDoor
open Go Go.Abs
theorem ref01_inner_ok (fuel : Nat) (s1 : (List UInt8)) (r : Bool) (h : M.ref01_inner fuel s1 = some r) : Pure Tryd.prog 58 [.str s1] (.bool r) := by
  rw [M.ref01_inner] at h
  refine pure_of_body Tryd.func58 (by rfl) (by rfl) (by simp) (by simp) (by simp) ?_
  refine cut 15 0 [(0, .str s1)] [] ?_ ?_
  · refine st ?_
    simp
  refine awp_seq ?_
  refine cut 15 0 [(0, .str s1), (3, .int .i64 0)] [] ?_ ?_
  · refine st ?_
    simp
  refine awp_block ?_
  obtain ⟨o4, l5, h⟩ := bs h
  refine awp_inv (fun p : Nat × Nat => mkS 15 0 [(0, .str s1), (3, .int .i64 ((p.2 : Nat) : Int))] []) (fun p => M.ref01_inner_l1 s1 p.1 p.2 = some o4) (fun p => p.1) (fuel, 0) l5 (le_mkS (by simp)) ?_
  rintro ⟨k6, i2⟩ l5
  dsimp only at l5 ⊢
  cases k6 with
  | zero =>
    rw [M.ref01_inner_l1] at l5; cases l5
  | succ k7 =>
    rw [M.ref01_inner_l1] at l5
    refine awp_seq ?_
    refine cut 15 0 [(0, .str s1), (3, .int .i64 ((i2 : Nat) : Int)), (7, .bool (ltI ((i2 : Nat) : Int) (s1.length : Int)))] [] ?_ ?_
    · refine st ?_
      simp
    rcases sp l5 with ⟨g8, l5⟩ | ⟨g8, l5⟩
    · have c9 := ltT g8
      refine condT rfl g8 ?_
      refine factS 0 rfl fun f10 => ?_
      refine awp_skip ?_
      refine seq_eq ?_
      refine awp_seq ?_
      refine awp_block ?_
      obtain ⟨c11, q12, l5⟩ := bs l5
      obtain ⟨v13, q14, l5⟩ := bs l5
      refine cut 15 0 [(0, .str s1), (3, .int .i64 ((i2 : Nat) : Int)), (14, .bool (!v13))] [] ?_ ?_
      · refine st ?_
        simp [q12]
        have r19 := ref01_Inner_ok c11 v13 q14
        try simp [q12] at r19
        refine callPure r19 (by simp) rfl ?_
        simp [q12]
      rcases sp l5 with ⟨g15, l5⟩ | ⟨g15, l5⟩
      · have g16 := notT g15
        refine condT rfl g15 ?_
        refine cut 15 0 [(2, .bool false)] [] ?_ ?_
        · refine st ?_
          simp
        refine awp_ret ?_
        refine ret_blk ?_
        refine ret_seq ?_
        replace h := retL l5 h
        refine ret_seq ?_
        refine ret_blk ?_
        refine ret_seq ?_
        obtain rfl := Option.some.inj h
        simp
      · have g17 := notF g15
        refine condF rfl g15 ?_
        refine awp_skip ?_
        refine blk_n ?_
        refine seq_eq ?_
        have q18 : Rng .i64 (((i2 : Nat) : Int) + 1) := by simp only [Rng, inR]; omega
        try simp at q18
        refine last 15 0 [(0, .str s1), (3, .int .i64 ((i2 + 1 : Nat) : Int))] [] ?_ fun zz hs => ?_
        · refine st ?_
          simp [q18]
        exact ⟨(k7, i2 + 1), hs, l5, by simp⟩
    · have c20 := ltF g8
      refine condF rfl g8 ?_
      refine factS 0 rfl fun f21 => ?_
      refine awp_exit ?_
      refine exit_seq ?_
      rcases o4 with o4 | o3
      · cases l5
      have q22 := Sum.inr.inj (Option.some.inj l5)
      replace h := elimR h
      refine exit_seq ?_
      refine exit_blk ?_
      refine seq_le (t := mkS 15 0 [] []) ?_ (le_mkS (by simp []))
      refine cut 15 0 [(2, .bool true)] [] ?_ ?_
      · refine st ?_
        simp
      refine awp_ret ?_
      obtain rfl := Option.some.inj h
      simp
end Go.Proofs.YtlhikhaailhoaaaDoor
set_option linter.unusedVariables false
set_option linter.unusedSimpArgs false
set_option maxRecDepth 100000
set_option maxHeartbeats 1000000
namespace Go.Proofs.YtlhikhaailhoaaaDoor
open Go Go.Abs
theorem ref01_Word_ok (fuel : Nat) (s1 : (List UInt8)) (r : Bool) (h : M.ref01_Word fuel s1 = some r) : Pure Tryd.prog 45 [.str s1] (.bool r) := by
  rw [M.ref01_Word] at h
  refine pure_of_body Tryd.func45 (by rfl) (by rfl) (by simp) (by simp) (by simp) ?_
  refine cut 15 0 [(0, .str s1)] [] ?_ ?_
  · refine st ?_
    simp
  obtain ⟨b12, q13, h⟩ := bs h
  refine cut 15 0 [(2, .bool b12)] [] ?_ ?_
  · rcases sp q13 with ⟨g2, q13⟩ | ⟨g2, q13⟩
    · have c3 := leT g2
      refine factS 0 rfl fun f4 => ?_
      rcases sp q13 with ⟨g5, q13⟩ | ⟨g5, q13⟩
      · have c6 := leT g5
        obtain ⟨v7, q8, q13⟩ := bs q13
        obtain rfl := Option.some.inj q13
        refine st ?_
        simp [g2, g5]
        have r14 := ref01_inner_ok fuel s1 v7 q8
        try simp [g2, g5] at r14
        refine callPure r14 (by simp) rfl ?_
        simp [g2, g5]
      · have c9 := leF g5
        obtain rfl := Option.some.inj q13
        refine st ?_
        simp [g2, g5]
    · have c10 := leF g2
      refine factS 0 rfl fun f11 => ?_
      obtain rfl := Option.some.inj q13
      refine st ?_
      simp [g2]
  refine awp_ret ?_
  obtain rfl := Option.some.inj h
  simp
end Go.Proofs.YtlhikhaailhoaaaDoor
set_option linter.unusedVariables false
set_option linter.unusedSimpArgs false
set_option maxRecDepth 100000
set_option maxHeartbeats 1000000
namespace Go.Proofs.YtlhikhaailhoaaaDoor
open Go Go.Abs
theorem ref01_IsUpper_ok (fuel : Nat) (s1 : (List UInt8)) (r : Bool) (h : M.ref01_IsUpper fuel s1 = some r) : Pure Tryd.prog 35 [.str s1] (.bool r) := by
  rw [M.ref01_IsUpper] at h
  refine pure_of_body Tryd.func35 (by rfl) (by rfl) (by simp) (by simp) (by simp) ?_
  refine cut 10 0 [(0, .str s1)] [] ?_ ?_
  · refine st ?_
    simp
  obtain ⟨b9, q10, h⟩ := bs h
  refine cut 10 0 [(2, .bool b9)] [] ?_ ?_
  · obtain ⟨v2, q3, q10⟩ := bs q10
    rcases sp q10 with ⟨g4, q10⟩ | ⟨g4, q10⟩
    · obtain ⟨c5, q6, q10⟩ := bs q10
      obtain ⟨v7, q8, q10⟩ := bs q10
      obtain rfl := Option.some.inj q10
      refine st ?_
      simp [g4, q6]
      have r11 := ref01_Word_ok fuel s1 v2 q3
      try simp [g4, q6] at r11
      refine callPure r11 (by simp) rfl ?_
      simp [g4, q6]
      have r12 := ref01_Capital_ok c5 v7 q8
      try simp [g4, q6] at r12
      refine callPure r12 (by simp) rfl ?_
      simp [g4, q6]
    · obtain rfl := Option.some.inj q10
      refine st ?_
      simp [g4]
      have r13 := ref01_Word_ok fuel s1 v2 q3
      try simp [g4] at r13
      refine callPure r13 (by simp) rfl ?_
      simp [g4]
  refine awp_ret ?_
  obtain rfl := Option.some.inj h
  simp
end Go.Proofs.YtlhikhaailhoaaaDoor
set_option linter.unusedVariables false
set_option linter.unusedSimpArgs false
set_option maxRecDepth 100000
set_option maxHeartbeats 1000000
namespace Go.Proofs.YtlhikhaailhoaaaDoor
open Go Go.Abs
theorem ref55_Valid_ok (fuel : Nat) (s1 : Api.Step) (r : Bool) (h : M.ref55_Valid fuel s1 = some r) : Pure Tryd.prog 18 [.agg [.str s1.Unit, .int .i64 s1.Reason.Op, .str s1.Reason.Unit, .bool s1.Compiled, .int .i64 s1.Code, .bool s1.Same]] (.bool r) := by
  rw [M.ref55_Valid] at h
  refine pure_of_body Tryd.func18 (by rfl) (by rfl) (by simp) (by simp) (by simp) ?_
  refine cut 41 0 [(1, .mptr 0 0)] [[.str s1.Unit, .int .i64 s1.Reason.Op, .str s1.Reason.Unit, .bool s1.Compiled, .int .i64 s1.Code, .bool s1.Same]] ?_ ?_
  · refine st ?_
    simp
  refine awp_seq ?_
  obtain ⟨b16, q17, h⟩ := bs h
  refine cut 41 0 [(1, .mptr 0 0), (28, .bool b16)] [[.str s1.Unit, .int .i64 s1.Reason.Op, .str s1.Reason.Unit, .bool s1.Compiled, .int .i64 s1.Code, .bool s1.Same]] ?_ ?_
  · obtain ⟨v2, q3, q17⟩ := bs q17
    rcases sp q17 with ⟨g4, q17⟩ | ⟨g4, q17⟩
    · have g5 := notT g4
      obtain rfl := Option.some.inj q17
      refine st ?_
      simp [g4]
      have r25 := ref01_IsUpper_ok fuel s1.Unit v2 q3
      try simp [g4] at r25
      refine callPure r25 (by simp) rfl ?_
      simp [g4]
    · have g6 := notF g4
      rcases sp q17 with ⟨g7, q17⟩ | ⟨g7, q17⟩
      · have c8 := ltT g7
        obtain rfl := Option.some.inj q17
        refine st ?_
        simp [g4, g7]
        have r26 := ref01_IsUpper_ok fuel s1.Unit v2 q3
        try simp [g4, g7] at r26
        refine callPure r26 (by simp) rfl ?_
        simp [g4, g7]
      · have c9 := ltF g7
        rcases sp q17 with ⟨g10, q17⟩ | ⟨g10, q17⟩
        · have c11 := ltT g10
          obtain rfl := Option.some.inj q17
          refine st ?_
          simp [g4, g7, g10]
          have r27 := ref01_IsUpper_ok fuel s1.Unit v2 q3
          try simp [g4, g7, g10] at r27
          refine callPure r27 (by simp) rfl ?_
          simp [g4, g7, g10]
        · have c12 := ltF g10
          rcases sp q17 with ⟨g13, q17⟩ | ⟨g13, q17⟩
          · have c14 := ltT g13
            obtain rfl := Option.some.inj q17
            refine st ?_
            simp [g4, g7, g10, g13]
            have r28 := ref01_IsUpper_ok fuel s1.Unit v2 q3
            try simp [g4, g7, g10, g13] at r28
            refine callPure r28 (by simp) rfl ?_
            simp [g4, g7, g10, g13]
          · have c15 := ltF g13
            obtain rfl := Option.some.inj q17
            refine st ?_
            simp [g4, g7, g10, g13]
            have r29 := ref01_IsUpper_ok fuel s1.Unit v2 q3
            try simp [g4, g7, g10, g13] at r29
            refine callPure r29 (by simp) rfl ?_
            simp [g4, g7, g10, g13]
  rcases sp h with ⟨g18, h⟩ | ⟨g18, h⟩
  · refine condT rfl g18 ?_
    refine cut 41 0 [(2, .bool false)] [[.str s1.Unit, .int .i64 s1.Reason.Op, .str s1.Reason.Unit, .bool s1.Compiled, .int .i64 s1.Code, .bool s1.Same]] ?_ ?_
    · refine st ?_
      simp
    refine awp_ret ?_
    refine ret_seq ?_
    obtain rfl := Option.some.inj h
    simp
  · refine condF rfl g18 ?_
    refine awp_skip ?_
    refine seq_eq ?_
    refine awp_seq ?_
    refine cut 41 0 [(1, .mptr 0 0), (32, .bool (eqI s1.Reason.Op 4))] [[.str s1.Unit, .int .i64 s1.Reason.Op, .str s1.Reason.Unit, .bool s1.Compiled, .int .i64 s1.Code, .bool s1.Same]] ?_ ?_
    · refine st ?_
      simp
    rcases sp h with ⟨g19, h⟩ | ⟨g19, h⟩
    · have c20 := eqT g19
      refine condT rfl g19 ?_
      obtain ⟨v21, q22, h⟩ := bs h
      refine cut 41 0 [(2, .bool v21)] [[.str s1.Unit, .int .i64 s1.Reason.Op, .str s1.Reason.Unit, .bool s1.Compiled, .int .i64 s1.Code, .bool s1.Same]] ?_ ?_
      · refine st ?_
        simp
        have r23 := ref01_IsUpper_ok fuel s1.Reason.Unit v21 q22
        try simp [] at r23
        refine callPure r23 (by simp) rfl ?_
        simp
      refine awp_ret ?_
      refine ret_seq ?_
      obtain rfl := Option.some.inj h
      simp
    · have c24 := eqF g19
      refine condF rfl g19 ?_
      refine awp_skip ?_
      refine seq_eq ?_
      refine cut 41 0 [(2, .bool (eqS s1.Reason.Unit ([] : List UInt8)))] [[.str s1.Unit, .int .i64 s1.Reason.Op, .str s1.Reason.Unit, .bool s1.Compiled, .int .i64 s1.Code, .bool s1.Same]] ?_ ?_
      · refine st ?_
        simp
      refine awp_ret ?_
      obtain rfl := Option.some.inj h
      simp
end Go.Proofs.YtlhikhaailhoaaaDoor
set_option linter.unusedVariables false
set_option linter.unusedSimpArgs false
set_option maxRecDepth 100000
set_option maxHeartbeats 1000000
namespace Go.Proofs.YtlhikhaailhoaaaDoor
open Go Go.Abs
theorem ref55_reason_ok (r1 : Api.Reason) (r : (List UInt8)) (h : M.ref55_reason r1 = some r) : Pure Tryd.prog 36 [.agg [.int .i64 r1.Op, .str r1.Unit]] (.str r) := by
  rw [M.ref55_reason] at h
  refine pure_of_body Tryd.func36 (by rfl) (by rfl) (by simp) (by simp) (by simp) ?_
  refine cut 19 0 [(1, .mptr 0 0)] [[.int .i64 r1.Op, .str r1.Unit]] ?_ ?_
  · refine st ?_
    simp
  refine awp_seq ?_
  refine cut 19 0 [(1, .mptr 0 0), (5, .bool (eqI r1.Op 0))] [[.int .i64 r1.Op, .str r1.Unit]] ?_ ?_
  · refine st ?_
    simp
  rcases sp h with ⟨g2, h⟩ | ⟨g2, h⟩
  · have c3 := eqT g2
    refine condT rfl g2 ?_
    refine cut 19 0 [(2, .str [110, 111, 116, 104, 105, 110, 103, 32, 104, 97, 115, 32, 99, 104, 97, 110, 103, 101, 100])] [[.int .i64 r1.Op, .str r1.Unit]] ?_ ?_
    · refine st ?_
      simp
    refine awp_ret ?_
    refine ret_seq ?_
    obtain rfl := Option.some.inj h
    simp
  · have c4 := eqF g2
    refine condF rfl g2 ?_
    refine awp_skip ?_
    refine seq_eq ?_
    refine awp_seq ?_
    refine cut 19 0 [(1, .mptr 0 0), (8, .bool (eqI r1.Op 1))] [[.int .i64 r1.Op, .str r1.Unit]] ?_ ?_
    · refine st ?_
      simp
    rcases sp h with ⟨g5, h⟩ | ⟨g5, h⟩
    · have c6 := eqT g5
      refine condT rfl g5 ?_
      refine cut 19 0 [(2, .str [110, 101, 118, 101, 114, 32, 98, 117, 105, 108, 116])] [[.int .i64 r1.Op, .str r1.Unit]] ?_ ?_
      · refine st ?_
        simp
      refine awp_ret ?_
      refine ret_seq ?_
      obtain rfl := Option.some.inj h
      simp
    · have c7 := eqF g5
      refine condF rfl g5 ?_
      refine awp_skip ?_
      refine seq_eq ?_
      refine awp_seq ?_
      refine cut 19 0 [(1, .mptr 0 0), (11, .bool (eqI r1.Op 2))] [[.int .i64 r1.Op, .str r1.Unit]] ?_ ?_
      · refine st ?_
        simp
      rcases sp h with ⟨g8, h⟩ | ⟨g8, h⟩
      · have c9 := eqT g8
        refine condT rfl g8 ?_
        refine cut 19 0 [(2, .str [110, 101, 119, 32, 115, 111, 117, 114, 99, 101])] [[.int .i64 r1.Op, .str r1.Unit]] ?_ ?_
        · refine st ?_
          simp
        refine awp_ret ?_
        refine ret_seq ?_
        obtain rfl := Option.some.inj h
        simp
      · have c10 := eqF g8
        refine condF rfl g8 ?_
        refine awp_skip ?_
        refine seq_eq ?_
        refine awp_seq ?_
        refine cut 19 0 [(1, .mptr 0 0), (14, .bool (eqI r1.Op 3))] [[.int .i64 r1.Op, .str r1.Unit]] ?_ ?_
        · refine st ?_
          simp
        rcases sp h with ⟨g11, h⟩ | ⟨g11, h⟩
        · have c12 := eqT g11
          refine condT rfl g11 ?_
          refine cut 19 0 [(2, .str [111, 116, 104, 101, 114, 32, 105, 109, 112, 111, 114, 116, 115])] [[.int .i64 r1.Op, .str r1.Unit]] ?_ ?_
          · refine st ?_
            simp
          refine awp_ret ?_
          refine ret_seq ?_
          obtain rfl := Option.some.inj h
          simp
        · have c13 := eqF g11
          refine condF rfl g11 ?_
          refine awp_skip ?_
          refine seq_eq ?_
          obtain ⟨s14, q15, h⟩ := bs h
          obtain ⟨q16, q17⟩ := cat_ok q15
          try simp at q16
          try simp at q17
          obtain ⟨s18, q19, h⟩ := bs h
          obtain ⟨q20, q21⟩ := cat_ok q19
          try simp at q20
          try simp at q21
          refine cut 19 0 [(2, .str s18)] [[.int .i64 r1.Op, .str r1.Unit]] ?_ ?_
          · refine st ?_
            simp [q16, q17, q20, q21]
          refine awp_ret ?_
          obtain rfl := Option.some.inj h
          simp
end Go.Proofs.YtlhikhaailhoaaaDoor
set_option linter.unusedVariables false
set_option linter.unusedSimpArgs false
set_option maxRecDepth 100000
set_option maxHeartbeats 1000000
namespace Go.Proofs.YtlhikhaailhoaaaDoor
open Go Go.Abs
theorem ref55_Text_ok (s1 : Api.Step) (r : (List UInt8)) (h : M.ref55_Text s1 = some r) : Pure Tryd.prog 19 [.agg [.str s1.Unit, .int .i64 s1.Reason.Op, .str s1.Reason.Unit, .bool s1.Compiled, .int .i64 s1.Code, .bool s1.Same]] (.str r) := by
  rw [M.ref55_Text] at h
  refine pure_of_body Tryd.func19 (by rfl) (by rfl) (by simp) (by simp) (by simp) ?_
  refine cut 29 0 [(1, .mptr 0 0)] [[.str s1.Unit, .int .i64 s1.Reason.Op, .str s1.Reason.Unit, .bool s1.Compiled, .int .i64 s1.Code, .bool s1.Same]] ?_ ?_
  · refine st ?_
    simp
  obtain ⟨s2, q3, h⟩ := bs h
  obtain ⟨q4, q5⟩ := cat_ok q3
  try simp at q4
  try simp at q5
  obtain ⟨v6, q7, h⟩ := bs h
  obtain ⟨s8, q9, h⟩ := bs h
  obtain ⟨q10, q11⟩ := cat_ok q9
  try simp at q10
  try simp at q11
  refine cut 29 0 [(1, .mptr 0 0), (3, .str s8)] [[.str s1.Unit, .int .i64 s1.Reason.Op, .str s1.Reason.Unit, .bool s1.Compiled, .int .i64 s1.Code, .bool s1.Same]] ?_ ?_
  · refine awp_region_draw [] mixed (n := 29) rfl (by decide) ?_
    simp [q4, q5, q10, q11]
    have r83 := ref55_reason_ok s1.Reason v6 q7
    try simp [q4, q5, q10, q11] at r83
    refine callD r83 (by simp) rfl ?_
    simp [q4, q5, q10, q11]
  refine awp_seq ?_
  refine cut 29 0 [(1, .mptr 0 0), (3, .str s8), (12, .bool s1.Compiled)] [[.str s1.Unit, .int .i64 s1.Reason.Op, .str s1.Reason.Unit, .bool s1.Compiled, .int .i64 s1.Code, .bool s1.Same]] ?_ ?_
  · refine st ?_
    simp
  rcases sp h with ⟨g12, h⟩ | ⟨g12, h⟩
  · refine condT rfl g12 ?_
    obtain ⟨s13, q14, h⟩ := bs h
    obtain ⟨q15, q16⟩ := cat_ok q14
    try simp at q15
    try simp at q16
    refine last 29 0 [(1, .mptr 0 0), (3, .str s13)] [[.str s1.Unit, .int .i64 s1.Reason.Op, .str s1.Reason.Unit, .bool s1.Compiled, .int .i64 s1.Code, .bool s1.Same]] ?_ fun zz hs => ?_
    · refine st ?_
      simp [q15, q16]
    refine seq_le ?_ hs
    refine awp_seq ?_
    refine cut 29 0 [(1, .mptr 0 0), (3, .str s13), (18, .bool s1.Same)] [[.str s1.Unit, .int .i64 s1.Reason.Op, .str s1.Reason.Unit, .bool s1.Compiled, .int .i64 s1.Code, .bool s1.Same]] ?_ ?_
    · refine st ?_
      simp
    rcases sp h with ⟨g17, h⟩ | ⟨g17, h⟩
    · refine condT rfl g17 ?_
      obtain ⟨s18, q19, h⟩ := bs h
      obtain ⟨q20, q21⟩ := cat_ok q19
      try simp at q20
      try simp at q21
      refine last 29 0 [(1, .mptr 0 0), (3, .str s18)] [[.str s1.Unit, .int .i64 s1.Reason.Op, .str s1.Reason.Unit, .bool s1.Compiled, .int .i64 s1.Code, .bool s1.Same]] ?_ fun zz hs => ?_
      · refine st ?_
        simp [q20, q21]
      refine seq_le ?_ hs
      obtain ⟨s22, q23, h⟩ := bs h
      obtain ⟨q24, q25⟩ := cat_ok q23
      try simp at q24
      try simp at q25
      obtain ⟨v26, q27, h⟩ := bs h
      obtain ⟨s28, q29, h⟩ := bs h
      obtain ⟨q30, q31⟩ := cat_ok q29
      try simp at q30
      try simp at q31
      refine cut 29 0 [(2, .str s28)] [[.str s1.Unit, .int .i64 s1.Reason.Op, .str s1.Reason.Unit, .bool s1.Compiled, .int .i64 s1.Code, .bool s1.Same]] ?_ ?_
      · refine st ?_
        simp [q24, q25, q30, q31]
        have r32 := ref55_Error_ok s1.Code v26 q27
        try simp [q24, q25, q30, q31] at r32
        refine callPure r32 (by simp) rfl ?_
        simp [q24, q25, q30, q31]
      refine awp_ret ?_
      obtain rfl := Option.some.inj h
      simp
    · refine condF rfl g17 ?_
      obtain ⟨s33, q34, h⟩ := bs h
      obtain ⟨q35, q36⟩ := cat_ok q34
      try simp at q35
      try simp at q36
      refine last 29 0 [(1, .mptr 0 0), (3, .str s33)] [[.str s1.Unit, .int .i64 s1.Reason.Op, .str s1.Reason.Unit, .bool s1.Compiled, .int .i64 s1.Code, .bool s1.Same]] ?_ fun zz hs => ?_
      · refine st ?_
        simp [q35, q36]
      refine seq_le ?_ hs
      obtain ⟨s37, q38, h⟩ := bs h
      obtain ⟨q39, q40⟩ := cat_ok q38
      try simp at q39
      try simp at q40
      obtain ⟨v41, q42, h⟩ := bs h
      obtain ⟨s43, q44, h⟩ := bs h
      obtain ⟨q45, q46⟩ := cat_ok q44
      try simp at q45
      try simp at q46
      refine cut 29 0 [(2, .str s43)] [[.str s1.Unit, .int .i64 s1.Reason.Op, .str s1.Reason.Unit, .bool s1.Compiled, .int .i64 s1.Code, .bool s1.Same]] ?_ ?_
      · refine st ?_
        simp [q39, q40, q45, q46]
        have r47 := ref55_Error_ok s1.Code v41 q42
        try simp [q39, q40, q45, q46] at r47
        refine callPure r47 (by simp) rfl ?_
        simp [q39, q40, q45, q46]
      refine awp_ret ?_
      obtain rfl := Option.some.inj h
      simp
  · refine condF rfl g12 ?_
    obtain ⟨s48, q49, h⟩ := bs h
    obtain ⟨q50, q51⟩ := cat_ok q49
    try simp at q50
    try simp at q51
    refine last 29 0 [(1, .mptr 0 0), (3, .str s48)] [[.str s1.Unit, .int .i64 s1.Reason.Op, .str s1.Reason.Unit, .bool s1.Compiled, .int .i64 s1.Code, .bool s1.Same]] ?_ fun zz hs => ?_
    · refine st ?_
      simp [q50, q51]
    refine seq_le ?_ hs
    refine awp_seq ?_
    refine cut 29 0 [(1, .mptr 0 0), (3, .str s48), (18, .bool s1.Same)] [[.str s1.Unit, .int .i64 s1.Reason.Op, .str s1.Reason.Unit, .bool s1.Compiled, .int .i64 s1.Code, .bool s1.Same]] ?_ ?_
    · refine st ?_
      simp
    rcases sp h with ⟨g52, h⟩ | ⟨g52, h⟩
    · refine condT rfl g52 ?_
      obtain ⟨s53, q54, h⟩ := bs h
      obtain ⟨q55, q56⟩ := cat_ok q54
      try simp at q55
      try simp at q56
      refine last 29 0 [(1, .mptr 0 0), (3, .str s53)] [[.str s1.Unit, .int .i64 s1.Reason.Op, .str s1.Reason.Unit, .bool s1.Compiled, .int .i64 s1.Code, .bool s1.Same]] ?_ fun zz hs => ?_
      · refine st ?_
        simp [q55, q56]
      refine seq_le ?_ hs
      obtain ⟨s57, q58, h⟩ := bs h
      obtain ⟨q59, q60⟩ := cat_ok q58
      try simp at q59
      try simp at q60
      obtain ⟨v61, q62, h⟩ := bs h
      obtain ⟨s63, q64, h⟩ := bs h
      obtain ⟨q65, q66⟩ := cat_ok q64
      try simp at q65
      try simp at q66
      refine cut 29 0 [(2, .str s63)] [[.str s1.Unit, .int .i64 s1.Reason.Op, .str s1.Reason.Unit, .bool s1.Compiled, .int .i64 s1.Code, .bool s1.Same]] ?_ ?_
      · refine st ?_
        simp [q59, q60, q65, q66]
        have r67 := ref55_Error_ok s1.Code v61 q62
        try simp [q59, q60, q65, q66] at r67
        refine callPure r67 (by simp) rfl ?_
        simp [q59, q60, q65, q66]
      refine awp_ret ?_
      obtain rfl := Option.some.inj h
      simp
    · refine condF rfl g52 ?_
      obtain ⟨s68, q69, h⟩ := bs h
      obtain ⟨q70, q71⟩ := cat_ok q69
      try simp at q70
      try simp at q71
      refine last 29 0 [(1, .mptr 0 0), (3, .str s68)] [[.str s1.Unit, .int .i64 s1.Reason.Op, .str s1.Reason.Unit, .bool s1.Compiled, .int .i64 s1.Code, .bool s1.Same]] ?_ fun zz hs => ?_
      · refine st ?_
        simp [q70, q71]
      refine seq_le ?_ hs
      obtain ⟨s72, q73, h⟩ := bs h
      obtain ⟨q74, q75⟩ := cat_ok q73
      try simp at q74
      try simp at q75
      obtain ⟨v76, q77, h⟩ := bs h
      obtain ⟨s78, q79, h⟩ := bs h
      obtain ⟨q80, q81⟩ := cat_ok q79
      try simp at q80
      try simp at q81
      refine cut 29 0 [(2, .str s78)] [[.str s1.Unit, .int .i64 s1.Reason.Op, .str s1.Reason.Unit, .bool s1.Compiled, .int .i64 s1.Code, .bool s1.Same]] ?_ ?_
      · refine st ?_
        simp [q74, q75, q80, q81]
        have r82 := ref55_Error_ok s1.Code v76 q77
        try simp [q74, q75, q80, q81] at r82
        refine callPure r82 (by simp) rfl ?_
        simp [q74, q75, q80, q81]
      refine awp_ret ?_
      obtain rfl := Option.some.inj h
      simp
end Go.Proofs.YtlhikhaailhoaaaDoor
set_option linter.unusedVariables false
set_option linter.unusedSimpArgs false
set_option maxRecDepth 100000
set_option maxHeartbeats 1000000
namespace Go.Proofs.YtlhikhaailhoaaaDoor
open Go Go.Abs
theorem ref55_Parse_ok (fuel : Nat) (s1 : (List UInt8)) (r : Api.Step × Int) (h : M.ref55_Parse fuel s1 = some r) : Pure Tryd.prog 8 [.str s1] (.tup [.agg [.str r.1.Unit, .int .i64 r.1.Reason.Op, .str r.1.Reason.Unit, .bool r.1.Compiled, .int .i64 r.1.Code, .bool r.1.Same], .int .i64 r.2]) := by
  rw [M.ref55_Parse] at h
  refine pure_of_body Tryd.func8 (by rfl) (by rfl) (by simp) (by simp) (by simp) ?_
  refine cut 83 0 [(0, .str s1), (2, .mptr 0 0)] [[.str ([] : List UInt8), .int .i64 0, .str ([] : List UInt8), .bool false, .int .i64 0, .bool false]] ?_ ?_
  · refine st ?_
    simp
  refine awp_seq ?_
  refine cut 83 0 [(0, .str s1), (2, .mptr 0 0), (17, .bool (ltI 16384 (s1.length : Int)))] [[.str ([] : List UInt8), .int .i64 0, .str ([] : List UInt8), .bool false, .int .i64 0, .bool false]] ?_ ?_
  · refine st ?_
    simp
  rcases sp h with ⟨g2, h⟩ | ⟨g2, h⟩
  · have c3 := ltT g2
    refine condT rfl g2 ?_
    refine factS 0 rfl fun f4 => ?_
    refine cut 83 0 [(2, .mptr 0 0), (3, .int .i64 5)] [[.str ([] : List UInt8), .int .i64 0, .str ([] : List UInt8), .bool false, .int .i64 0, .bool false]] ?_ ?_
    · refine st ?_
      simp
    refine awp_ret ?_
    refine ret_seq ?_
    obtain rfl := Option.some.inj h
    simp
  · have c5 := ltF g2
    refine condF rfl g2 ?_
    refine factS 0 rfl fun f6 => ?_
    refine awp_skip ?_
    refine seq_eq ?_
    obtain ⟨v7, q8, h⟩ := bs h
    refine cut 83 0 [(0, .str s1), (2, .mptr 0 0), (4, .str v7.1), (5, .str v7.2.1), (6, .bool v7.2.2)] [[.str ([] : List UInt8), .int .i64 0, .str ([] : List UInt8), .bool false, .int .i64 0, .bool false]] ?_ ?_
    · refine st ?_
      simp
      have r140 := ref55_split_ok fuel s1 [58, 32] v7 q8
      try simp [] at r140
      refine callPure r140 (by simp) rfl ?_
      simp
    refine awp_seq ?_
    refine cut 83 0 [(0, .str s1), (2, .mptr 0 0), (4, .str v7.1), (5, .str v7.2.1), (26, .bool (!v7.2.2))] [[.str ([] : List UInt8), .int .i64 0, .str ([] : List UInt8), .bool false, .int .i64 0, .bool false]] ?_ ?_
    · refine st ?_
      simp
    rcases sp h with ⟨g9, h⟩ | ⟨g9, h⟩
    · have g10 := notT g9
      refine condT rfl g9 ?_
      refine cut 83 0 [(2, .mptr 0 0), (3, .int .i64 3)] [[.str ([] : List UInt8), .int .i64 0, .str ([] : List UInt8), .bool false, .int .i64 0, .bool false]] ?_ ?_
      · refine st ?_
        simp
      refine awp_ret ?_
      refine ret_seq ?_
      obtain rfl := Option.some.inj h
      simp
    · have g11 := notF g9
      refine condF rfl g9 ?_
      refine awp_skip ?_
      refine seq_eq ?_
      refine cut 83 0 [(0, .str s1), (2, .mptr 0 0), (4, .str v7.1), (5, .str v7.2.1), (7, .str ([] : List UInt8))] [[.str ([] : List UInt8), .int .i64 0, .str ([] : List UInt8), .bool false, .int .i64 0, .bool false]] ?_ ?_
      · refine st ?_
        simp
      refine awp_seq ?_
      obtain ⟨v12, q13, h⟩ := bs h
      refine cut 83 0 [(0, .str s1), (2, .mptr 0 0), (4, .str v7.1), (7, .str ([] : List UInt8)), (8, .str v12.1), (9, .str v12.2.1), (10, .bool v12.2.2)] [[.str ([] : List UInt8), .int .i64 0, .str ([] : List UInt8), .bool false, .int .i64 0, .bool false]] ?_ ?_
      · refine st ?_
        simp
        have r139 := ref55_split_ok fuel v7.2.1 [116, 104, 101, 32, 105, 110, 116, 101, 114, 102, 97, 99, 101, 32, 111, 102, 32] v12 q13
        try simp [] at r139
        refine callPure r139 (by simp) rfl ?_
        simp
      refine cut 83 0 [(0, .str s1), (2, .mptr 0 0), (4, .str v7.1), (7, .str ([] : List UInt8)), (9, .str v12.2.1), (38, .bool (v12.2.2 && (eqS v12.1 ([] : List UInt8))))] [[.str ([] : List UInt8), .int .i64 0, .str ([] : List UInt8), .bool false, .int .i64 0, .bool false]] ?_ ?_
      · rcases tf (v12.2.2) with g14 | g14
        · refine st ?_
          simp [g14]
        · refine st ?_
          simp [g14]
      rcases sp h with ⟨g15, h⟩ | ⟨g15, h⟩
      · obtain ⟨g16, g17⟩ := andT g15
        refine condT rfl g15 ?_
        obtain ⟨v18, q19, h⟩ := bs h
        refine last 83 0 [(0, .str s1), (2, .mptr 0 0), (4, .str v7.1), (7, .str v18.1)] [[.str ([] : List UInt8), .int .i64 0, .str ([] : List UInt8), .bool false, .int .i64 0, .bool false]] ?_ fun zz hs => ?_
        · refine st ?_
          simp
          have r79 := ref55_split_ok fuel v12.2.1 [32, 104, 97, 115, 32, 99, 104, 97, 110, 103, 101, 100] v18 q19
          try simp [] at r79
          refine callPure r79 (by simp) rfl ?_
          simp
        refine seq_le ?_ hs
        refine awp_seq ?_
        refine cut 83 0 [(0, .str s1), (2, .mptr 0 0), (4, .str v7.1), (7, .str v18.1), (11, .int .i64 0)] [[.str ([] : List UInt8), .int .i64 0, .str ([] : List UInt8), .bool false, .int .i64 0, .bool false]] ?_ ?_
        · refine st ?_
          simp
        refine awp_block ?_
        obtain ⟨o22, l23, h⟩ := bs h
        refine awp_inv (fun p : Nat × Nat => mkS 83 0 [(0, .str s1), (2, .mptr 0 0), (4, .str v7.1), (7, .str v18.1), (11, .int .i64 ((p.2 : Nat) : Int))] [[.str ([] : List UInt8), .int .i64 0, .str ([] : List UInt8), .bool false, .int .i64 0, .bool false]]) (fun p => M.ref55_Parse_l1 fuel s1 v7 v18 p.1 p.2 = some o22) (fun p => p.1) (fuel, 0) l23 (le_mkS (by simp)) ?_
        rintro ⟨k24, op20⟩ l23
        dsimp only at l23 ⊢
        cases k24 with
        | zero =>
          rw [M.ref55_Parse_l1] at l23; cases l23
        | succ k25 =>
          rw [M.ref55_Parse_l1] at l23
          refine awp_seq ?_
          refine cut 83 0 [(0, .str s1), (2, .mptr 0 0), (4, .str v7.1), (7, .str v18.1), (11, .int .i64 ((op20 : Nat) : Int)), (46, .bool (leI ((op20 : Nat) : Int) 4))] [[.str ([] : List UInt8), .int .i64 0, .str ([] : List UInt8), .bool false, .int .i64 0, .bool false]] ?_ ?_
          · refine st ?_
            simp
          rcases sp l23 with ⟨g26, l23⟩ | ⟨g26, l23⟩
          · have c27 := leT g26
            refine condT rfl g26 ?_
            refine awp_skip ?_
            refine seq_eq ?_
            refine awp_seq ?_
            refine awp_block ?_
            refine cut 83 0 [(0, .str s1), (2, .mptr 0 0), (4, .str v7.1), (7, .str v18.1), (11, .int .i64 ((op20 : Nat) : Int)), (12, .int .i64 0)] [[.str ([] : List UInt8), .int .i64 0, .str ([] : List UInt8), .bool false, .int .i64 0, .bool false]] ?_ ?_
            · refine st ?_
              simp
            refine awp_block ?_
            obtain ⟨o30, l31, l23⟩ := bs l23
            refine awp_inv (fun p : Nat × Nat => mkS 83 0 [(0, .str s1), (2, .mptr 0 0), (4, .str v7.1), (7, .str v18.1), (11, .int .i64 ((op20 : Nat) : Int)), (12, .int .i64 ((p.2 : Nat) : Int))] [[.str ([] : List UInt8), .int .i64 0, .str ([] : List UInt8), .bool false, .int .i64 0, .bool false]]) (fun p => M.ref55_Parse_l2 fuel s1 v7 v18 op20 p.1 p.2 = some o30) (fun p => p.1) (fuel, 0) l31 (le_mkS (by simp)) ?_
            rintro ⟨k32, bits28⟩ l31
            dsimp only at l31 ⊢
            cases k32 with
            | zero =>
              rw [M.ref55_Parse_l2] at l31; cases l31
            | succ k33 =>
              rw [M.ref55_Parse_l2] at l31
              refine awp_seq ?_
              refine cut 83 0 [(0, .str s1), (2, .mptr 0 0), (4, .str v7.1), (7, .str v18.1), (11, .int .i64 ((op20 : Nat) : Int)), (12, .int .i64 ((bits28 : Nat) : Int)), (50, .bool (ltI ((bits28 : Nat) : Int) 4))] [[.str ([] : List UInt8), .int .i64 0, .str ([] : List UInt8), .bool false, .int .i64 0, .bool false]] ?_ ?_
              · refine st ?_
                simp
              rcases sp l31 with ⟨g34, l31⟩ | ⟨g34, l31⟩
              · have c35 := ltT g34
                refine condT rfl g34 ?_
                refine awp_skip ?_
                refine seq_eq ?_
                refine awp_seq ?_
                refine awp_block ?_
                refine cut 83 0 [(0, .str s1), (2, .mptr 0 0), (4, .str v7.1), (7, .str v18.1), (11, .int .i64 ((op20 : Nat) : Int)), (12, .int .i64 ((bits28 : Nat) : Int)), (13, .int .i64 0)] [[.str ([] : List UInt8), .int .i64 0, .str ([] : List UInt8), .bool false, .int .i64 0, .bool false]] ?_ ?_
                · refine st ?_
                  simp
                refine awp_block ?_
                obtain ⟨o38, l39, l31⟩ := bs l31
                refine awp_inv (fun p : Nat × Nat => mkS 83 0 [(0, .str s1), (2, .mptr 0 0), (4, .str v7.1), (7, .str v18.1), (11, .int .i64 ((op20 : Nat) : Int)), (12, .int .i64 ((bits28 : Nat) : Int)), (13, .int .i64 ((p.2 : Nat) : Int))] [[.str ([] : List UInt8), .int .i64 0, .str ([] : List UInt8), .bool false, .int .i64 0, .bool false]]) (fun p => M.ref55_Parse_l3 fuel s1 v7 v18 op20 bits28 p.1 p.2 = some o38) (fun p => p.1) (fuel, 0) l39 (le_mkS (by simp)) ?_
                rintro ⟨k40, code36⟩ l39
                dsimp only at l39 ⊢
                cases k40 with
                | zero =>
                  rw [M.ref55_Parse_l3] at l39; cases l39
                | succ k41 =>
                  rw [M.ref55_Parse_l3] at l39
                  refine awp_seq ?_
                  refine cut 83 0 [(0, .str s1), (2, .mptr 0 0), (4, .str v7.1), (7, .str v18.1), (11, .int .i64 ((op20 : Nat) : Int)), (12, .int .i64 ((bits28 : Nat) : Int)), (13, .int .i64 ((code36 : Nat) : Int)), (54, .bool (leI ((code36 : Nat) : Int) 30))] [[.str ([] : List UInt8), .int .i64 0, .str ([] : List UInt8), .bool false, .int .i64 0, .bool false]] ?_ ?_
                  · refine st ?_
                    simp
                  rcases sp l39 with ⟨g42, l39⟩ | ⟨g42, l39⟩
                  · have c43 := leT g42
                    refine condT rfl g42 ?_
                    refine awp_skip ?_
                    refine seq_eq ?_
                    refine awp_seq ?_
                    refine awp_block ?_
                    refine cut 83 0 [(0, .str s1), (2, .mptr 0 0), (4, .str v7.1), (7, .str v18.1), (11, .int .i64 ((op20 : Nat) : Int)), (12, .int .i64 ((bits28 : Nat) : Int)), (13, .int .i64 ((code36 : Nat) : Int)), (14, .mptr 1 0)] [[.str ([] : List UInt8), .int .i64 0, .str ([] : List UInt8), .bool false, .int .i64 0, .bool false], [.str v7.1, .int .i64 ((op20 : Nat) : Int), .str ([] : List UInt8), .bool (eqI (andI .i64 ((bits28 : Nat) : Int) 1) 1), .int .i64 ((code36 : Nat) : Int), .bool (eqI (andI .i64 ((bits28 : Nat) : Int) 2) 2)]] ?_ ?_
                    · refine st ?_
                      simp
                    refine awp_seq ?_
                    refine cut 83 0 [(0, .str s1), (2, .mptr 0 0), (4, .str v7.1), (7, .str v18.1), (11, .int .i64 ((op20 : Nat) : Int)), (12, .int .i64 ((bits28 : Nat) : Int)), (13, .int .i64 ((code36 : Nat) : Int)), (14, .mptr 1 0), (69, .bool (eqI ((op20 : Nat) : Int) 4))] [[.str ([] : List UInt8), .int .i64 0, .str ([] : List UInt8), .bool false, .int .i64 0, .bool false], [.str v7.1, .int .i64 ((op20 : Nat) : Int), .str ([] : List UInt8), .bool (eqI (andI .i64 ((bits28 : Nat) : Int) 1) 1), .int .i64 ((code36 : Nat) : Int), .bool (eqI (andI .i64 ((bits28 : Nat) : Int) 2) 2)]] ?_ ?_
                    · refine st ?_
                      simp
                    rcases sp l39 with ⟨g44, l39⟩ | ⟨g44, l39⟩
                    · have c45 := eqT g44
                      refine condT rfl g44 ?_
                      refine last 83 0 [(0, .str s1), (2, .mptr 0 0), (4, .str v7.1), (7, .str v18.1), (11, .int .i64 ((op20 : Nat) : Int)), (12, .int .i64 ((bits28 : Nat) : Int)), (13, .int .i64 ((code36 : Nat) : Int)), (14, .mptr 1 0)] [[.str ([] : List UInt8), .int .i64 0, .str ([] : List UInt8), .bool false, .int .i64 0, .bool false], [.str v7.1, .int .i64 ((op20 : Nat) : Int), .str v18.1, .bool (eqI (andI .i64 ((bits28 : Nat) : Int) 1) 1), .int .i64 ((code36 : Nat) : Int), .bool (eqI (andI .i64 ((bits28 : Nat) : Int) 2) 2)]] ?_ fun zz hs => ?_
                      · refine st ?_
                        simp
                      refine seq_le ?_ hs
                      obtain ⟨b51, q52, l39⟩ := bs l39
                      refine cut 83 0 [(0, .str s1), (2, .mptr 0 0), (4, .str v7.1), (7, .str v18.1), (11, .int .i64 ((op20 : Nat) : Int)), (12, .int .i64 ((bits28 : Nat) : Int)), (13, .int .i64 ((code36 : Nat) : Int)), (14, .mptr 1 0), (80, .bool b51)] [[.str ([] : List UInt8), .int .i64 0, .str ([] : List UInt8), .bool false, .int .i64 0, .bool false], [.str v7.1, .int .i64 ((op20 : Nat) : Int), .str v18.1, .bool (eqI (andI .i64 ((bits28 : Nat) : Int) 1) 1), .int .i64 ((code36 : Nat) : Int), .bool (eqI (andI .i64 ((bits28 : Nat) : Int) 2) 2)]] ?_ ?_
                      · obtain ⟨v46, q47, q52⟩ := bs q52
                        rcases sp q52 with ⟨g48, q52⟩ | ⟨g48, q52⟩
                        · obtain ⟨v49, q50, q52⟩ := bs q52
                          obtain rfl := Option.some.inj q52
                          refine st ?_
                          simp [g48]
                          have r55 := ref55_Valid_ok fuel (Api.Step.mk v7.1 (Api.Reason.mk ((op20 : Nat) : Int) v18.1) (eqI (andI .i64 ((bits28 : Nat) : Int) 1) 1) ((code36 : Nat) : Int) (eqI (andI .i64 ((bits28 : Nat) : Int) 2) 2)) v46 q47
                          try simp [g48] at r55
                          refine callPure r55 (by simp) rfl ?_
                          simp [g48]
                          have r56 := ref55_Text_ok (Api.Step.mk v7.1 (Api.Reason.mk ((op20 : Nat) : Int) v18.1) (eqI (andI .i64 ((bits28 : Nat) : Int) 1) 1) ((code36 : Nat) : Int) (eqI (andI .i64 ((bits28 : Nat) : Int) 2) 2)) v49 q50
                          try simp [g48] at r56
                          refine callPure r56 (by simp) rfl ?_
                          simp [g48]
                        · obtain rfl := Option.some.inj q52
                          refine st ?_
                          simp [g48]
                          have r57 := ref55_Valid_ok fuel (Api.Step.mk v7.1 (Api.Reason.mk ((op20 : Nat) : Int) v18.1) (eqI (andI .i64 ((bits28 : Nat) : Int) 1) 1) ((code36 : Nat) : Int) (eqI (andI .i64 ((bits28 : Nat) : Int) 2) 2)) v46 q47
                          try simp [g48] at r57
                          refine callPure r57 (by simp) rfl ?_
                          simp [g48]
                      rcases sp l39 with ⟨g53, l39⟩ | ⟨g53, l39⟩
                      · refine condT rfl g53 ?_
                        refine cut 83 0 [(2, .mptr 0 0), (3, .int .i64 0)] [[.str v7.1, .int .i64 ((op20 : Nat) : Int), .str v18.1, .bool (eqI (andI .i64 ((bits28 : Nat) : Int) 1) 1), .int .i64 ((code36 : Nat) : Int), .bool (eqI (andI .i64 ((bits28 : Nat) : Int) 2) 2)], [.str v7.1, .int .i64 ((op20 : Nat) : Int), .str v18.1, .bool (eqI (andI .i64 ((bits28 : Nat) : Int) 1) 1), .int .i64 ((code36 : Nat) : Int), .bool (eqI (andI .i64 ((bits28 : Nat) : Int) 2) 2)]] ?_ ?_
                        · refine st ?_
                          simp
                        refine awp_ret ?_
                        refine ret_blk ?_
                        refine ret_seq ?_
                        replace l31 := retL l39 l31
                        refine ret_seq ?_
                        refine ret_blk ?_
                        refine ret_blk ?_
                        refine ret_seq ?_
                        replace l23 := retL l31 l23
                        refine ret_seq ?_
                        refine ret_blk ?_
                        refine ret_blk ?_
                        refine ret_seq ?_
                        replace h := retL l23 h
                        refine ret_seq ?_
                        refine ret_blk ?_
                        refine ret_seq ?_
                        obtain rfl := Option.some.inj h
                        simp
                      · refine condF rfl g53 ?_
                        refine awp_skip ?_
                        refine blk_n ?_
                        refine seq_eq ?_
                        have q54 : Rng .i64 (((code36 : Nat) : Int) + 1) := by simp only [Rng, inR]; omega
                        try simp at q54
                        refine last 83 0 [(0, .str s1), (2, .mptr 0 0), (4, .str v7.1), (7, .str v18.1), (11, .int .i64 ((op20 : Nat) : Int)), (12, .int .i64 ((bits28 : Nat) : Int)), (13, .int .i64 ((code36 + 1 : Nat) : Int))] [[.str ([] : List UInt8), .int .i64 0, .str ([] : List UInt8), .bool false, .int .i64 0, .bool false]] ?_ fun zz hs => ?_
                        · refine st ?_
                          simp [q54]
                        exact ⟨(k41, code36 + 1), hs, l39, by simp⟩
                    · have c58 := eqF g44
                      refine condF rfl g44 ?_
                      refine awp_skip ?_
                      refine seq_eq ?_
                      obtain ⟨b64, q65, l39⟩ := bs l39
                      refine cut 83 0 [(0, .str s1), (2, .mptr 0 0), (4, .str v7.1), (7, .str v18.1), (11, .int .i64 ((op20 : Nat) : Int)), (12, .int .i64 ((bits28 : Nat) : Int)), (13, .int .i64 ((code36 : Nat) : Int)), (14, .mptr 1 0), (80, .bool b64)] [[.str ([] : List UInt8), .int .i64 0, .str ([] : List UInt8), .bool false, .int .i64 0, .bool false], [.str v7.1, .int .i64 ((op20 : Nat) : Int), .str ([] : List UInt8), .bool (eqI (andI .i64 ((bits28 : Nat) : Int) 1) 1), .int .i64 ((code36 : Nat) : Int), .bool (eqI (andI .i64 ((bits28 : Nat) : Int) 2) 2)]] ?_ ?_
                      · obtain ⟨v59, q60, q65⟩ := bs q65
                        rcases sp q65 with ⟨g61, q65⟩ | ⟨g61, q65⟩
                        · obtain ⟨v62, q63, q65⟩ := bs q65
                          obtain rfl := Option.some.inj q65
                          refine st ?_
                          simp [g61]
                          have r68 := ref55_Valid_ok fuel (Api.Step.mk v7.1 (Api.Reason.mk ((op20 : Nat) : Int) ([] : List UInt8)) (eqI (andI .i64 ((bits28 : Nat) : Int) 1) 1) ((code36 : Nat) : Int) (eqI (andI .i64 ((bits28 : Nat) : Int) 2) 2)) v59 q60
                          try simp [g61] at r68
                          refine callPure r68 (by simp) rfl ?_
                          simp [g61]
                          have r69 := ref55_Text_ok (Api.Step.mk v7.1 (Api.Reason.mk ((op20 : Nat) : Int) ([] : List UInt8)) (eqI (andI .i64 ((bits28 : Nat) : Int) 1) 1) ((code36 : Nat) : Int) (eqI (andI .i64 ((bits28 : Nat) : Int) 2) 2)) v62 q63
                          try simp [g61] at r69
                          refine callPure r69 (by simp) rfl ?_
                          simp [g61]
                        · obtain rfl := Option.some.inj q65
                          refine st ?_
                          simp [g61]
                          have r70 := ref55_Valid_ok fuel (Api.Step.mk v7.1 (Api.Reason.mk ((op20 : Nat) : Int) ([] : List UInt8)) (eqI (andI .i64 ((bits28 : Nat) : Int) 1) 1) ((code36 : Nat) : Int) (eqI (andI .i64 ((bits28 : Nat) : Int) 2) 2)) v59 q60
                          try simp [g61] at r70
                          refine callPure r70 (by simp) rfl ?_
                          simp [g61]
                      rcases sp l39 with ⟨g66, l39⟩ | ⟨g66, l39⟩
                      · refine condT rfl g66 ?_
                        refine cut 83 0 [(2, .mptr 0 0), (3, .int .i64 0)] [[.str v7.1, .int .i64 ((op20 : Nat) : Int), .str ([] : List UInt8), .bool (eqI (andI .i64 ((bits28 : Nat) : Int) 1) 1), .int .i64 ((code36 : Nat) : Int), .bool (eqI (andI .i64 ((bits28 : Nat) : Int) 2) 2)], [.str v7.1, .int .i64 ((op20 : Nat) : Int), .str ([] : List UInt8), .bool (eqI (andI .i64 ((bits28 : Nat) : Int) 1) 1), .int .i64 ((code36 : Nat) : Int), .bool (eqI (andI .i64 ((bits28 : Nat) : Int) 2) 2)]] ?_ ?_
                        · refine st ?_
                          simp
                        refine awp_ret ?_
                        refine ret_blk ?_
                        refine ret_seq ?_
                        replace l31 := retL l39 l31
                        refine ret_seq ?_
                        refine ret_blk ?_
                        refine ret_blk ?_
                        refine ret_seq ?_
                        replace l23 := retL l31 l23
                        refine ret_seq ?_
                        refine ret_blk ?_
                        refine ret_blk ?_
                        refine ret_seq ?_
                        replace h := retL l23 h
                        refine ret_seq ?_
                        refine ret_blk ?_
                        refine ret_seq ?_
                        obtain rfl := Option.some.inj h
                        simp
                      · refine condF rfl g66 ?_
                        refine awp_skip ?_
                        refine blk_n ?_
                        refine seq_eq ?_
                        have q67 : Rng .i64 (((code36 : Nat) : Int) + 1) := by simp only [Rng, inR]; omega
                        try simp at q67
                        refine last 83 0 [(0, .str s1), (2, .mptr 0 0), (4, .str v7.1), (7, .str v18.1), (11, .int .i64 ((op20 : Nat) : Int)), (12, .int .i64 ((bits28 : Nat) : Int)), (13, .int .i64 ((code36 + 1 : Nat) : Int))] [[.str ([] : List UInt8), .int .i64 0, .str ([] : List UInt8), .bool false, .int .i64 0, .bool false]] ?_ fun zz hs => ?_
                        · refine st ?_
                          simp [q67]
                        exact ⟨(k41, code36 + 1), hs, l39, by simp⟩
                  · have c71 := leF g42
                    refine condF rfl g42 ?_
                    refine awp_exit ?_
                    refine exit_seq ?_
                    rcases o38 with o38 | o37
                    · cases l39
                    have q72 := Sum.inr.inj (Option.some.inj l39)
                    replace l31 := elimR l31
                    refine exit_seq ?_
                    refine exit_blk ?_
                    refine blk_n ?_
                    refine seq_le (t := mkS 83 0 [(0, .str s1), (2, .mptr 0 0), (4, .str v7.1), (7, .str v18.1), (11, .int .i64 ((op20 : Nat) : Int)), (12, .int .i64 ((bits28 : Nat) : Int))] [[.str ([] : List UInt8), .int .i64 0, .str ([] : List UInt8), .bool false, .int .i64 0, .bool false]]) ?_ (le_mkS (by simp []))
                    have q73 : Rng .i64 (((bits28 : Nat) : Int) + 1) := by simp only [Rng, inR]; omega
                    try simp at q73
                    refine last 83 0 [(0, .str s1), (2, .mptr 0 0), (4, .str v7.1), (7, .str v18.1), (11, .int .i64 ((op20 : Nat) : Int)), (12, .int .i64 ((bits28 + 1 : Nat) : Int))] [[.str ([] : List UInt8), .int .i64 0, .str ([] : List UInt8), .bool false, .int .i64 0, .bool false]] ?_ fun zz hs => ?_
                    · refine st ?_
                      simp [q73]
                    exact ⟨(k33, bits28 + 1), hs, l31, by simp⟩
              · have c74 := ltF g34
                refine condF rfl g34 ?_
                refine awp_exit ?_
                refine exit_seq ?_
                rcases o30 with o30 | o29
                · cases l31
                have q75 := Sum.inr.inj (Option.some.inj l31)
                replace l23 := elimR l23
                refine exit_seq ?_
                refine exit_blk ?_
                refine blk_n ?_
                refine seq_le (t := mkS 83 0 [(0, .str s1), (2, .mptr 0 0), (4, .str v7.1), (7, .str v18.1), (11, .int .i64 ((op20 : Nat) : Int))] [[.str ([] : List UInt8), .int .i64 0, .str ([] : List UInt8), .bool false, .int .i64 0, .bool false]]) ?_ (le_mkS (by simp []))
                have q76 : Rng .i64 (((op20 : Nat) : Int) + 1) := by simp only [Rng, inR]; omega
                try simp at q76
                refine last 83 0 [(0, .str s1), (2, .mptr 0 0), (4, .str v7.1), (7, .str v18.1), (11, .int .i64 ((op20 + 1 : Nat) : Int))] [[.str ([] : List UInt8), .int .i64 0, .str ([] : List UInt8), .bool false, .int .i64 0, .bool false]] ?_ fun zz hs => ?_
                · refine st ?_
                  simp [q76]
                exact ⟨(k25, op20 + 1), hs, l23, by simp⟩
          · have c77 := leF g26
            refine condF rfl g26 ?_
            refine awp_exit ?_
            refine exit_seq ?_
            rcases o22 with o22 | o21
            · cases l23
            have q78 := Sum.inr.inj (Option.some.inj l23)
            replace h := elimR h
            refine exit_seq ?_
            refine exit_blk ?_
            refine seq_le (t := mkS 83 0 [(2, .mptr 0 0)] [[.str ([] : List UInt8), .int .i64 0, .str ([] : List UInt8), .bool false, .int .i64 0, .bool false]]) ?_ (le_mkS (by simp []))
            refine cut 83 0 [(2, .mptr 0 0), (3, .int .i64 3)] [[.str ([] : List UInt8), .int .i64 0, .str ([] : List UInt8), .bool false, .int .i64 0, .bool false]] ?_ ?_
            · refine st ?_
              simp
            refine awp_ret ?_
            obtain rfl := Option.some.inj h
            simp
      · refine condF rfl g15 ?_
        refine awp_skip ?_
        refine seq_eq ?_
        refine awp_seq ?_
        refine cut 83 0 [(0, .str s1), (2, .mptr 0 0), (4, .str v7.1), (7, .str ([] : List UInt8)), (11, .int .i64 0)] [[.str ([] : List UInt8), .int .i64 0, .str ([] : List UInt8), .bool false, .int .i64 0, .bool false]] ?_ ?_
        · refine st ?_
          simp
        refine awp_block ?_
        obtain ⟨o82, l83, h⟩ := bs h
        refine awp_inv (fun p : Nat × Nat => mkS 83 0 [(0, .str s1), (2, .mptr 0 0), (4, .str v7.1), (7, .str ([] : List UInt8)), (11, .int .i64 ((p.2 : Nat) : Int))] [[.str ([] : List UInt8), .int .i64 0, .str ([] : List UInt8), .bool false, .int .i64 0, .bool false]]) (fun p => M.ref55_Parse_l4 fuel s1 v7 p.1 p.2 = some o82) (fun p => p.1) (fuel, 0) l83 (le_mkS (by simp)) ?_
        rintro ⟨k84, op80⟩ l83
        dsimp only at l83 ⊢
        cases k84 with
        | zero =>
          rw [M.ref55_Parse_l4] at l83; cases l83
        | succ k85 =>
          rw [M.ref55_Parse_l4] at l83
          refine awp_seq ?_
          refine cut 83 0 [(0, .str s1), (2, .mptr 0 0), (4, .str v7.1), (7, .str ([] : List UInt8)), (11, .int .i64 ((op80 : Nat) : Int)), (46, .bool (leI ((op80 : Nat) : Int) 4))] [[.str ([] : List UInt8), .int .i64 0, .str ([] : List UInt8), .bool false, .int .i64 0, .bool false]] ?_ ?_
          · refine st ?_
            simp
          rcases sp l83 with ⟨g86, l83⟩ | ⟨g86, l83⟩
          · have c87 := leT g86
            refine condT rfl g86 ?_
            refine awp_skip ?_
            refine seq_eq ?_
            refine awp_seq ?_
            refine awp_block ?_
            refine cut 83 0 [(0, .str s1), (2, .mptr 0 0), (4, .str v7.1), (7, .str ([] : List UInt8)), (11, .int .i64 ((op80 : Nat) : Int)), (12, .int .i64 0)] [[.str ([] : List UInt8), .int .i64 0, .str ([] : List UInt8), .bool false, .int .i64 0, .bool false]] ?_ ?_
            · refine st ?_
              simp
            refine awp_block ?_
            obtain ⟨o90, l91, l83⟩ := bs l83
            refine awp_inv (fun p : Nat × Nat => mkS 83 0 [(0, .str s1), (2, .mptr 0 0), (4, .str v7.1), (7, .str ([] : List UInt8)), (11, .int .i64 ((op80 : Nat) : Int)), (12, .int .i64 ((p.2 : Nat) : Int))] [[.str ([] : List UInt8), .int .i64 0, .str ([] : List UInt8), .bool false, .int .i64 0, .bool false]]) (fun p => M.ref55_Parse_l5 fuel s1 v7 op80 p.1 p.2 = some o90) (fun p => p.1) (fuel, 0) l91 (le_mkS (by simp)) ?_
            rintro ⟨k92, bits88⟩ l91
            dsimp only at l91 ⊢
            cases k92 with
            | zero =>
              rw [M.ref55_Parse_l5] at l91; cases l91
            | succ k93 =>
              rw [M.ref55_Parse_l5] at l91
              refine awp_seq ?_
              refine cut 83 0 [(0, .str s1), (2, .mptr 0 0), (4, .str v7.1), (7, .str ([] : List UInt8)), (11, .int .i64 ((op80 : Nat) : Int)), (12, .int .i64 ((bits88 : Nat) : Int)), (50, .bool (ltI ((bits88 : Nat) : Int) 4))] [[.str ([] : List UInt8), .int .i64 0, .str ([] : List UInt8), .bool false, .int .i64 0, .bool false]] ?_ ?_
              · refine st ?_
                simp
              rcases sp l91 with ⟨g94, l91⟩ | ⟨g94, l91⟩
              · have c95 := ltT g94
                refine condT rfl g94 ?_
                refine awp_skip ?_
                refine seq_eq ?_
                refine awp_seq ?_
                refine awp_block ?_
                refine cut 83 0 [(0, .str s1), (2, .mptr 0 0), (4, .str v7.1), (7, .str ([] : List UInt8)), (11, .int .i64 ((op80 : Nat) : Int)), (12, .int .i64 ((bits88 : Nat) : Int)), (13, .int .i64 0)] [[.str ([] : List UInt8), .int .i64 0, .str ([] : List UInt8), .bool false, .int .i64 0, .bool false]] ?_ ?_
                · refine st ?_
                  simp
                refine awp_block ?_
                obtain ⟨o98, l99, l91⟩ := bs l91
                refine awp_inv (fun p : Nat × Nat => mkS 83 0 [(0, .str s1), (2, .mptr 0 0), (4, .str v7.1), (7, .str ([] : List UInt8)), (11, .int .i64 ((op80 : Nat) : Int)), (12, .int .i64 ((bits88 : Nat) : Int)), (13, .int .i64 ((p.2 : Nat) : Int))] [[.str ([] : List UInt8), .int .i64 0, .str ([] : List UInt8), .bool false, .int .i64 0, .bool false]]) (fun p => M.ref55_Parse_l6 fuel s1 v7 op80 bits88 p.1 p.2 = some o98) (fun p => p.1) (fuel, 0) l99 (le_mkS (by simp)) ?_
                rintro ⟨k100, code96⟩ l99
                dsimp only at l99 ⊢
                cases k100 with
                | zero =>
                  rw [M.ref55_Parse_l6] at l99; cases l99
                | succ k101 =>
                  rw [M.ref55_Parse_l6] at l99
                  refine awp_seq ?_
                  refine cut 83 0 [(0, .str s1), (2, .mptr 0 0), (4, .str v7.1), (7, .str ([] : List UInt8)), (11, .int .i64 ((op80 : Nat) : Int)), (12, .int .i64 ((bits88 : Nat) : Int)), (13, .int .i64 ((code96 : Nat) : Int)), (54, .bool (leI ((code96 : Nat) : Int) 30))] [[.str ([] : List UInt8), .int .i64 0, .str ([] : List UInt8), .bool false, .int .i64 0, .bool false]] ?_ ?_
                  · refine st ?_
                    simp
                  rcases sp l99 with ⟨g102, l99⟩ | ⟨g102, l99⟩
                  · have c103 := leT g102
                    refine condT rfl g102 ?_
                    refine awp_skip ?_
                    refine seq_eq ?_
                    refine awp_seq ?_
                    refine awp_block ?_
                    refine cut 83 0 [(0, .str s1), (2, .mptr 0 0), (4, .str v7.1), (7, .str ([] : List UInt8)), (11, .int .i64 ((op80 : Nat) : Int)), (12, .int .i64 ((bits88 : Nat) : Int)), (13, .int .i64 ((code96 : Nat) : Int)), (14, .mptr 1 0)] [[.str ([] : List UInt8), .int .i64 0, .str ([] : List UInt8), .bool false, .int .i64 0, .bool false], [.str v7.1, .int .i64 ((op80 : Nat) : Int), .str ([] : List UInt8), .bool (eqI (andI .i64 ((bits88 : Nat) : Int) 1) 1), .int .i64 ((code96 : Nat) : Int), .bool (eqI (andI .i64 ((bits88 : Nat) : Int) 2) 2)]] ?_ ?_
                    · refine st ?_
                      simp
                    refine awp_seq ?_
                    refine cut 83 0 [(0, .str s1), (2, .mptr 0 0), (4, .str v7.1), (7, .str ([] : List UInt8)), (11, .int .i64 ((op80 : Nat) : Int)), (12, .int .i64 ((bits88 : Nat) : Int)), (13, .int .i64 ((code96 : Nat) : Int)), (14, .mptr 1 0), (69, .bool (eqI ((op80 : Nat) : Int) 4))] [[.str ([] : List UInt8), .int .i64 0, .str ([] : List UInt8), .bool false, .int .i64 0, .bool false], [.str v7.1, .int .i64 ((op80 : Nat) : Int), .str ([] : List UInt8), .bool (eqI (andI .i64 ((bits88 : Nat) : Int) 1) 1), .int .i64 ((code96 : Nat) : Int), .bool (eqI (andI .i64 ((bits88 : Nat) : Int) 2) 2)]] ?_ ?_
                    · refine st ?_
                      simp
                    rcases sp l99 with ⟨g104, l99⟩ | ⟨g104, l99⟩
                    · have c105 := eqT g104
                      refine condT rfl g104 ?_
                      refine last 83 0 [(0, .str s1), (2, .mptr 0 0), (4, .str v7.1), (7, .str ([] : List UInt8)), (11, .int .i64 ((op80 : Nat) : Int)), (12, .int .i64 ((bits88 : Nat) : Int)), (13, .int .i64 ((code96 : Nat) : Int)), (14, .mptr 1 0)] [[.str ([] : List UInt8), .int .i64 0, .str ([] : List UInt8), .bool false, .int .i64 0, .bool false], [.str v7.1, .int .i64 ((op80 : Nat) : Int), .str ([] : List UInt8), .bool (eqI (andI .i64 ((bits88 : Nat) : Int) 1) 1), .int .i64 ((code96 : Nat) : Int), .bool (eqI (andI .i64 ((bits88 : Nat) : Int) 2) 2)]] ?_ fun zz hs => ?_
                      · refine st ?_
                        simp
                      refine seq_le ?_ hs
                      obtain ⟨b111, q112, l99⟩ := bs l99
                      refine cut 83 0 [(0, .str s1), (2, .mptr 0 0), (4, .str v7.1), (7, .str ([] : List UInt8)), (11, .int .i64 ((op80 : Nat) : Int)), (12, .int .i64 ((bits88 : Nat) : Int)), (13, .int .i64 ((code96 : Nat) : Int)), (14, .mptr 1 0), (80, .bool b111)] [[.str ([] : List UInt8), .int .i64 0, .str ([] : List UInt8), .bool false, .int .i64 0, .bool false], [.str v7.1, .int .i64 ((op80 : Nat) : Int), .str ([] : List UInt8), .bool (eqI (andI .i64 ((bits88 : Nat) : Int) 1) 1), .int .i64 ((code96 : Nat) : Int), .bool (eqI (andI .i64 ((bits88 : Nat) : Int) 2) 2)]] ?_ ?_
                      · obtain ⟨v106, q107, q112⟩ := bs q112
                        rcases sp q112 with ⟨g108, q112⟩ | ⟨g108, q112⟩
                        · obtain ⟨v109, q110, q112⟩ := bs q112
                          obtain rfl := Option.some.inj q112
                          refine st ?_
                          simp [g108]
                          have r115 := ref55_Valid_ok fuel (Api.Step.mk v7.1 (Api.Reason.mk ((op80 : Nat) : Int) ([] : List UInt8)) (eqI (andI .i64 ((bits88 : Nat) : Int) 1) 1) ((code96 : Nat) : Int) (eqI (andI .i64 ((bits88 : Nat) : Int) 2) 2)) v106 q107
                          try simp [g108] at r115
                          refine callPure r115 (by simp) rfl ?_
                          simp [g108]
                          have r116 := ref55_Text_ok (Api.Step.mk v7.1 (Api.Reason.mk ((op80 : Nat) : Int) ([] : List UInt8)) (eqI (andI .i64 ((bits88 : Nat) : Int) 1) 1) ((code96 : Nat) : Int) (eqI (andI .i64 ((bits88 : Nat) : Int) 2) 2)) v109 q110
                          try simp [g108] at r116
                          refine callPure r116 (by simp) rfl ?_
                          simp [g108]
                        · obtain rfl := Option.some.inj q112
                          refine st ?_
                          simp [g108]
                          have r117 := ref55_Valid_ok fuel (Api.Step.mk v7.1 (Api.Reason.mk ((op80 : Nat) : Int) ([] : List UInt8)) (eqI (andI .i64 ((bits88 : Nat) : Int) 1) 1) ((code96 : Nat) : Int) (eqI (andI .i64 ((bits88 : Nat) : Int) 2) 2)) v106 q107
                          try simp [g108] at r117
                          refine callPure r117 (by simp) rfl ?_
                          simp [g108]
                      rcases sp l99 with ⟨g113, l99⟩ | ⟨g113, l99⟩
                      · refine condT rfl g113 ?_
                        refine cut 83 0 [(2, .mptr 0 0), (3, .int .i64 0)] [[.str v7.1, .int .i64 ((op80 : Nat) : Int), .str ([] : List UInt8), .bool (eqI (andI .i64 ((bits88 : Nat) : Int) 1) 1), .int .i64 ((code96 : Nat) : Int), .bool (eqI (andI .i64 ((bits88 : Nat) : Int) 2) 2)], [.str v7.1, .int .i64 ((op80 : Nat) : Int), .str ([] : List UInt8), .bool (eqI (andI .i64 ((bits88 : Nat) : Int) 1) 1), .int .i64 ((code96 : Nat) : Int), .bool (eqI (andI .i64 ((bits88 : Nat) : Int) 2) 2)]] ?_ ?_
                        · refine st ?_
                          simp
                        refine awp_ret ?_
                        refine ret_blk ?_
                        refine ret_seq ?_
                        replace l91 := retL l99 l91
                        refine ret_seq ?_
                        refine ret_blk ?_
                        refine ret_blk ?_
                        refine ret_seq ?_
                        replace l83 := retL l91 l83
                        refine ret_seq ?_
                        refine ret_blk ?_
                        refine ret_blk ?_
                        refine ret_seq ?_
                        replace h := retL l83 h
                        refine ret_seq ?_
                        refine ret_blk ?_
                        refine ret_seq ?_
                        obtain rfl := Option.some.inj h
                        simp
                      · refine condF rfl g113 ?_
                        refine awp_skip ?_
                        refine blk_n ?_
                        refine seq_eq ?_
                        have q114 : Rng .i64 (((code96 : Nat) : Int) + 1) := by simp only [Rng, inR]; omega
                        try simp at q114
                        refine last 83 0 [(0, .str s1), (2, .mptr 0 0), (4, .str v7.1), (7, .str ([] : List UInt8)), (11, .int .i64 ((op80 : Nat) : Int)), (12, .int .i64 ((bits88 : Nat) : Int)), (13, .int .i64 ((code96 + 1 : Nat) : Int))] [[.str ([] : List UInt8), .int .i64 0, .str ([] : List UInt8), .bool false, .int .i64 0, .bool false]] ?_ fun zz hs => ?_
                        · refine st ?_
                          simp [q114]
                        exact ⟨(k101, code96 + 1), hs, l99, by simp⟩
                    · have c118 := eqF g104
                      refine condF rfl g104 ?_
                      refine awp_skip ?_
                      refine seq_eq ?_
                      obtain ⟨b124, q125, l99⟩ := bs l99
                      refine cut 83 0 [(0, .str s1), (2, .mptr 0 0), (4, .str v7.1), (7, .str ([] : List UInt8)), (11, .int .i64 ((op80 : Nat) : Int)), (12, .int .i64 ((bits88 : Nat) : Int)), (13, .int .i64 ((code96 : Nat) : Int)), (14, .mptr 1 0), (80, .bool b124)] [[.str ([] : List UInt8), .int .i64 0, .str ([] : List UInt8), .bool false, .int .i64 0, .bool false], [.str v7.1, .int .i64 ((op80 : Nat) : Int), .str ([] : List UInt8), .bool (eqI (andI .i64 ((bits88 : Nat) : Int) 1) 1), .int .i64 ((code96 : Nat) : Int), .bool (eqI (andI .i64 ((bits88 : Nat) : Int) 2) 2)]] ?_ ?_
                      · obtain ⟨v119, q120, q125⟩ := bs q125
                        rcases sp q125 with ⟨g121, q125⟩ | ⟨g121, q125⟩
                        · obtain ⟨v122, q123, q125⟩ := bs q125
                          obtain rfl := Option.some.inj q125
                          refine st ?_
                          simp [g121]
                          have r128 := ref55_Valid_ok fuel (Api.Step.mk v7.1 (Api.Reason.mk ((op80 : Nat) : Int) ([] : List UInt8)) (eqI (andI .i64 ((bits88 : Nat) : Int) 1) 1) ((code96 : Nat) : Int) (eqI (andI .i64 ((bits88 : Nat) : Int) 2) 2)) v119 q120
                          try simp [g121] at r128
                          refine callPure r128 (by simp) rfl ?_
                          simp [g121]
                          have r129 := ref55_Text_ok (Api.Step.mk v7.1 (Api.Reason.mk ((op80 : Nat) : Int) ([] : List UInt8)) (eqI (andI .i64 ((bits88 : Nat) : Int) 1) 1) ((code96 : Nat) : Int) (eqI (andI .i64 ((bits88 : Nat) : Int) 2) 2)) v122 q123
                          try simp [g121] at r129
                          refine callPure r129 (by simp) rfl ?_
                          simp [g121]
                        · obtain rfl := Option.some.inj q125
                          refine st ?_
                          simp [g121]
                          have r130 := ref55_Valid_ok fuel (Api.Step.mk v7.1 (Api.Reason.mk ((op80 : Nat) : Int) ([] : List UInt8)) (eqI (andI .i64 ((bits88 : Nat) : Int) 1) 1) ((code96 : Nat) : Int) (eqI (andI .i64 ((bits88 : Nat) : Int) 2) 2)) v119 q120
                          try simp [g121] at r130
                          refine callPure r130 (by simp) rfl ?_
                          simp [g121]
                      rcases sp l99 with ⟨g126, l99⟩ | ⟨g126, l99⟩
                      · refine condT rfl g126 ?_
                        refine cut 83 0 [(2, .mptr 0 0), (3, .int .i64 0)] [[.str v7.1, .int .i64 ((op80 : Nat) : Int), .str ([] : List UInt8), .bool (eqI (andI .i64 ((bits88 : Nat) : Int) 1) 1), .int .i64 ((code96 : Nat) : Int), .bool (eqI (andI .i64 ((bits88 : Nat) : Int) 2) 2)], [.str v7.1, .int .i64 ((op80 : Nat) : Int), .str ([] : List UInt8), .bool (eqI (andI .i64 ((bits88 : Nat) : Int) 1) 1), .int .i64 ((code96 : Nat) : Int), .bool (eqI (andI .i64 ((bits88 : Nat) : Int) 2) 2)]] ?_ ?_
                        · refine st ?_
                          simp
                        refine awp_ret ?_
                        refine ret_blk ?_
                        refine ret_seq ?_
                        replace l91 := retL l99 l91
                        refine ret_seq ?_
                        refine ret_blk ?_
                        refine ret_blk ?_
                        refine ret_seq ?_
                        replace l83 := retL l91 l83
                        refine ret_seq ?_
                        refine ret_blk ?_
                        refine ret_blk ?_
                        refine ret_seq ?_
                        replace h := retL l83 h
                        refine ret_seq ?_
                        refine ret_blk ?_
                        refine ret_seq ?_
                        obtain rfl := Option.some.inj h
                        simp
                      · refine condF rfl g126 ?_
                        refine awp_skip ?_
                        refine blk_n ?_
                        refine seq_eq ?_
                        have q127 : Rng .i64 (((code96 : Nat) : Int) + 1) := by simp only [Rng, inR]; omega
                        try simp at q127
                        refine last 83 0 [(0, .str s1), (2, .mptr 0 0), (4, .str v7.1), (7, .str ([] : List UInt8)), (11, .int .i64 ((op80 : Nat) : Int)), (12, .int .i64 ((bits88 : Nat) : Int)), (13, .int .i64 ((code96 + 1 : Nat) : Int))] [[.str ([] : List UInt8), .int .i64 0, .str ([] : List UInt8), .bool false, .int .i64 0, .bool false]] ?_ fun zz hs => ?_
                        · refine st ?_
                          simp [q127]
                        exact ⟨(k101, code96 + 1), hs, l99, by simp⟩
                  · have c131 := leF g102
                    refine condF rfl g102 ?_
                    refine awp_exit ?_
                    refine exit_seq ?_
                    rcases o98 with o98 | o97
                    · cases l99
                    have q132 := Sum.inr.inj (Option.some.inj l99)
                    replace l91 := elimR l91
                    refine exit_seq ?_
                    refine exit_blk ?_
                    refine blk_n ?_
                    refine seq_le (t := mkS 83 0 [(0, .str s1), (2, .mptr 0 0), (4, .str v7.1), (7, .str ([] : List UInt8)), (11, .int .i64 ((op80 : Nat) : Int)), (12, .int .i64 ((bits88 : Nat) : Int))] [[.str ([] : List UInt8), .int .i64 0, .str ([] : List UInt8), .bool false, .int .i64 0, .bool false]]) ?_ (le_mkS (by simp []))
                    have q133 : Rng .i64 (((bits88 : Nat) : Int) + 1) := by simp only [Rng, inR]; omega
                    try simp at q133
                    refine last 83 0 [(0, .str s1), (2, .mptr 0 0), (4, .str v7.1), (7, .str ([] : List UInt8)), (11, .int .i64 ((op80 : Nat) : Int)), (12, .int .i64 ((bits88 + 1 : Nat) : Int))] [[.str ([] : List UInt8), .int .i64 0, .str ([] : List UInt8), .bool false, .int .i64 0, .bool false]] ?_ fun zz hs => ?_
                    · refine st ?_
                      simp [q133]
                    exact ⟨(k93, bits88 + 1), hs, l91, by simp⟩
              · have c134 := ltF g94
                refine condF rfl g94 ?_
                refine awp_exit ?_
                refine exit_seq ?_
                rcases o90 with o90 | o89
                · cases l91
                have q135 := Sum.inr.inj (Option.some.inj l91)
                replace l83 := elimR l83
                refine exit_seq ?_
                refine exit_blk ?_
                refine blk_n ?_
                refine seq_le (t := mkS 83 0 [(0, .str s1), (2, .mptr 0 0), (4, .str v7.1), (7, .str ([] : List UInt8)), (11, .int .i64 ((op80 : Nat) : Int))] [[.str ([] : List UInt8), .int .i64 0, .str ([] : List UInt8), .bool false, .int .i64 0, .bool false]]) ?_ (le_mkS (by simp []))
                have q136 : Rng .i64 (((op80 : Nat) : Int) + 1) := by simp only [Rng, inR]; omega
                try simp at q136
                refine last 83 0 [(0, .str s1), (2, .mptr 0 0), (4, .str v7.1), (7, .str ([] : List UInt8)), (11, .int .i64 ((op80 + 1 : Nat) : Int))] [[.str ([] : List UInt8), .int .i64 0, .str ([] : List UInt8), .bool false, .int .i64 0, .bool false]] ?_ fun zz hs => ?_
                · refine st ?_
                  simp [q136]
                exact ⟨(k85, op80 + 1), hs, l83, by simp⟩
          · have c137 := leF g86
            refine condF rfl g86 ?_
            refine awp_exit ?_
            refine exit_seq ?_
            rcases o82 with o82 | o81
            · cases l83
            have q138 := Sum.inr.inj (Option.some.inj l83)
            replace h := elimR h
            refine exit_seq ?_
            refine exit_blk ?_
            refine seq_le (t := mkS 83 0 [(2, .mptr 0 0)] [[.str ([] : List UInt8), .int .i64 0, .str ([] : List UInt8), .bool false, .int .i64 0, .bool false]]) ?_ (le_mkS (by simp []))
            refine cut 83 0 [(2, .mptr 0 0), (3, .int .i64 3)] [[.str ([] : List UInt8), .int .i64 0, .str ([] : List UInt8), .bool false, .int .i64 0, .bool false]] ?_ ?_
            · refine st ?_
              simp
            refine awp_ret ?_
            obtain rfl := Option.some.inj h
            simp
end Go.Proofs.YtlhikhaailhoaaaDoor
set_option linter.unusedVariables false
set_option linter.unusedSimpArgs false
set_option maxRecDepth 100000
set_option maxHeartbeats 1000000
namespace Go.Proofs.YtlhikhaailhoaaaDoor
open Go Go.Abs
theorem law55_ExplainParses_ok (fuel : Nat) (s1 : (List UInt8)) (n2 : Int) (r : Bool) (h : M.law55_ExplainParses fuel s1 n2 = some r) : Pure Tryd.prog 3 [.str s1, .int .i64 n2] (.bool r) := by
  rw [M.law55_ExplainParses] at h
  refine pure_of_body Tryd.func3 (by rfl) (by rfl) (by simp) (by simp) (by simp) ?_
  refine cut 49 0 [(0, .str s1), (1, .int .i64 n2)] [] ?_ ?_
  · refine st ?_
    simp
  refine awp_seq ?_
  obtain ⟨v3, q4, h⟩ := bs h
  refine cut 49 0 [(0, .str s1), (1, .int .i64 n2), (10, .bool (!v3))] [] ?_ ?_
  · refine st ?_
    simp
    have r35 := law55_awake_ok fuel v3 q4
    try simp [] at r35
    refine callPure r35 (by simp) rfl ?_
    simp
  rcases sp h with ⟨g5, h⟩ | ⟨g5, h⟩
  · have g6 := notT g5
    refine condT rfl g5 ?_
    refine cut 49 0 [(4, .bool false)] [] ?_ ?_
    · refine st ?_
      simp
    refine awp_ret ?_
    refine ret_seq ?_
    obtain rfl := Option.some.inj h
    simp
  · have g7 := notF g5
    refine condF rfl g5 ?_
    refine awp_skip ?_
    refine seq_eq ?_
    refine awp_seq ?_
    refine cut 49 0 [(0, .str s1), (1, .int .i64 n2), (23, .bool (if ltI 300 (s1.length : Int) then (leI (s1.length : Int) 16384) || (ltI 16394 (s1.length : Int)) else ltI 16394 (s1.length : Int)))] [] ?_ ?_
    · rcases tf (ltI 300 (s1.length : Int)) with g8 | g8
      · have c9 := ltT g8
        refine factS 0 rfl fun f10 => ?_
        rcases tf (leI (s1.length : Int) 16384) with g11 | g11
        · have c12 := leT g11
          refine st ?_
          simp [g8, g11]
        · have c13 := leF g11
          refine st ?_
          simp [g8, g11]
      · have c14 := ltF g8
        refine factS 0 rfl fun f15 => ?_
        refine st ?_
        simp [g8]
    rcases sp h with ⟨g16, h⟩ | ⟨g16, h⟩
    · refine condT rfl g16 ?_
      refine cut 49 0 [(4, .bool true)] [] ?_ ?_
      · refine st ?_
        simp
      refine awp_ret ?_
      refine ret_seq ?_
      obtain rfl := Option.some.inj h
      simp
    · refine condF rfl g16 ?_
      refine awp_skip ?_
      refine seq_eq ?_
      obtain ⟨v17, q18, h⟩ := bs h
      refine cut 49 0 [(0, .str s1), (1, .int .i64 n2), (5, .mptr 0 0), (6, .int .i64 v17.2)] [[.str v17.1.Unit, .int .i64 v17.1.Reason.Op, .str v17.1.Reason.Unit, .bool v17.1.Compiled, .int .i64 v17.1.Code, .bool v17.1.Same]] ?_ ?_
      · refine st ?_
        simp
        have r34 := explain_Parse_ok fuel s1 v17 q18
        try simp [] at r34
        refine callPure r34 (by simp) rfl ?_
        simp
      obtain ⟨v19, q20, h⟩ := bs h
      refine cut 49 0 [(1, .int .i64 n2), (5, .mptr 0 0), (6, .int .i64 v17.2), (7, .mptr 1 0), (8, .int .i64 v19.2)] [[.str v17.1.Unit, .int .i64 v17.1.Reason.Op, .str v17.1.Reason.Unit, .bool v17.1.Compiled, .int .i64 v17.1.Code, .bool v17.1.Same], [.str v19.1.Unit, .int .i64 v19.1.Reason.Op, .str v19.1.Reason.Unit, .bool v19.1.Compiled, .int .i64 v19.1.Code, .bool v19.1.Same]] ?_ ?_
      · refine st ?_
        simp
        have r33 := ref55_Parse_ok fuel s1 v19 q20
        try simp [] at r33
        refine callPure r33 (by simp) rfl ?_
        simp
      obtain ⟨b29, q30, h⟩ := bs h
      refine cut 49 0 [(4, .bool b29)] [[.str v17.1.Unit, .int .i64 v17.1.Reason.Op, .str v17.1.Reason.Unit, .bool v17.1.Compiled, .int .i64 v17.1.Code, .bool v17.1.Same], [.str v19.1.Unit, .int .i64 v19.1.Reason.Op, .str v19.1.Reason.Unit, .bool v19.1.Compiled, .int .i64 v19.1.Code, .bool v19.1.Same]] ?_ ?_
      · rcases sp q30 with ⟨g21, q30⟩ | ⟨g21, q30⟩
        · rcases sp q30 with ⟨g22, q30⟩ | ⟨g22, q30⟩
          · have c23 := eqT g22
            obtain ⟨v24, q25, q30⟩ := bs q30
            obtain ⟨v26, q27, q30⟩ := bs q30
            obtain rfl := Option.some.inj q30
            refine st ?_
            simp [g21, g22]
            have r31 := explain_Error_ok n2 v24 q25
            try simp [g21, g22] at r31
            refine callPure r31 (by simp) rfl ?_
            simp [g21, g22]
            have r32 := ref55_Error_ok n2 v26 q27
            try simp [g21, g22] at r32
            refine callPure r32 (by simp) rfl ?_
            simp [g21, g22]
          · have c28 := eqF g22
            obtain rfl := Option.some.inj q30
            refine st ?_
            simp [g21, g22]
        · obtain rfl := Option.some.inj q30
          refine st ?_
          simp [g21]
      refine awp_ret ?_
      obtain rfl := Option.some.inj h
      simp
end Go.Proofs.YtlhikhaailhoaaaDoor
