/- For every input the law ExplainSteps returns true. Part 10 of 15. No condition. -/
import Derived.Test.YtlhikhaailhoaaaDoorLIi
import Derived.Shelf.Strings.Builder1
import Derived.Shelf.Strings.Builder2
import Derived.Shelf.Strings.OnBuilder
import Derived.Shelf.Strings.Search1
import Derived.Shelf.Strings.Search2
import Derived.Shelf.Strings.Search3
import Derived.Shelf.Strings.Cut
import Derived.Shelf.Strings.Count
import Derived.Shelf.LaysM
import Derived.Shelf.Strings.Shaped
import Derived.Shelf.Strings.Split
import Derived.Shelf.Strings.SplitShaped
import Derived.Shelf.Unicode.DecodeSlow
set_option linter.unusedVariables false
namespace Go.Proofs
open Go.Shelf
def Tryd.lays156_ren : Go.Shelf.Ren := ⟨fun | 156 => 28 | 165 => 42 | 166 => 32 | 169 => 34 | 240 => 44 | 241 => 52 | 276 => 57 | 277 => 65 | n => n, fun | 31 => 49 | 9 => 9 | 3 => 3 | 4 => 4 | 0 => 0 | 20 => 20 | 72 => 61 | 76 => 64 | 70 => 58 | 37 => 59 | 75 => 63 | 127 => 73 | 164 => 81 | 5 => 5 | 80 => 67 | n => n, fun | n => n⟩
theorem Tryd.lays156 : Go.Proofs.Lays.n156 Tryd.prog Tryd.lays156_ren := {
  mixed := by kernel_rfl
  f156 := Tryd.func28.trans (congrArg some (by kernel_rfl))
  f165 := Tryd.func42.trans (congrArg some (by kernel_rfl))
  f166 := Tryd.func32.trans (congrArg some (by kernel_rfl))
  f169 := Tryd.func34.trans (congrArg some (by kernel_rfl))
  f240 := Tryd.func44.trans (congrArg some (by kernel_rfl))
  f241 := Tryd.func52.trans (congrArg some (by kernel_rfl))
  f276 := Tryd.func57.trans (congrArg some (by kernel_rfl))
  f277 := Tryd.func65.trans (congrArg some (by kernel_rfl))
  t0 := Tryd.underlying0
  a0 := Tryd.isAgg0
  z0 := Tryd.sizeOf0
  v0 := Tryd.zeroValue0
  t3 := Tryd.underlying3
  a3 := Tryd.isAgg3
  z3 := Tryd.sizeOf3
  v3 := Tryd.zeroValue3
  t4 := Tryd.underlying4
  a4 := Tryd.isAgg4
  z4 := Tryd.sizeOf4
  v4 := Tryd.zeroValue4
  t9 := Tryd.underlying9
  a9 := Tryd.isAgg9
  z9 := Tryd.sizeOf9
  v9 := Tryd.zeroValue9
  t20 := Tryd.underlying20
  a20 := Tryd.isAgg20
  z20 := Tryd.sizeOf20
  v20 := Tryd.zeroValue20
  t31 := Tryd.underlying49
  a31 := Tryd.isAgg49
  z31 := Tryd.sizeOf49
  v31 := Tryd.zeroValue49
  t37 := Tryd.underlying59
  a37 := Tryd.isAgg59
  z37 := Tryd.sizeOf59
  v37 := Tryd.zeroValue59
  t70 := Tryd.underlying58
  a70 := Tryd.isAgg58
  z70 := Tryd.sizeOf58
  v70 := Tryd.zeroValue58
  t72 := Tryd.underlying61
  a72 := Tryd.isAgg61
  z72 := Tryd.sizeOf61
  v72 := Tryd.zeroValue61
  t75 := Tryd.underlying63
  a75 := Tryd.isAgg63
  z75 := Tryd.sizeOf63
  v75 := Tryd.zeroValue63
  t76 := Tryd.underlying64
  a76 := Tryd.isAgg64
  z76 := Tryd.sizeOf64
  v76 := Tryd.zeroValue64
  t127 := Tryd.underlying73
  a127 := Tryd.isAgg73
  z127 := Tryd.sizeOf73
  v127 := Tryd.zeroValue73
  t164 := Tryd.underlying81
  a164 := Tryd.isAgg81
  z164 := Tryd.sizeOf81
  v164 := Tryd.zeroValue81 }
theorem Tryd.Builder_Extra_156 : Builder.Extra Tryd.prog Tryd.lays156_ren := {
  sizeBuilder := by kernel_rfl
  liesBuilder := by kernel_rfl
  t5 := Tryd.underlying5
  a5 := Tryd.isAgg5
  z5 := Tryd.sizeOf5
  v5 := Tryd.zeroValue5
  infoByte := by kernel_rfl
  cellsByte := by kernel_rfl
  sizeByte := by kernel_rfl
  neB5 := by decide }
open Go.RowKit in
theorem Tryd.strings_Join_none (a : Option Addr) (c : Nat) (sep : ByteArray) (w : World) :
    Calls Tryd.prog 28 #[.slice a 0 c, .string sep] w fun e w' => e = .returned (.string ⟨#[]⟩) ∧ w' = w := Any.strings_Join_none Tryd.lays156 Tryd.Builder_Extra_156 a c sep w
open Go.RowKit in
theorem Tryd.strings_Join (bk o c : Nat) (xs : List ByteArray) (sep : ByteArray) (w : World) (hcells : ∀ (j : Nat) x, xs[j]? = some x → w.cell? ⟨bk, o + j, none⟩ = some (.string x)) (hbk : bk < w.heap.size) (hN : xs.length ≤ 140737488355328) (hcap : xs.length ≤ c) (hlen : (Lib.join (xs.map (·.data.toList)) sep.data.toList).length ≤ 140737488355328) :
    Calls Tryd.prog 28 #[.slice (some ⟨bk, o, none⟩) xs.length c, .string sep] w fun e w' => e = .returned (.string ⟨(Lib.join (xs.map (·.data.toList)) sep.data.toList).toArray⟩) ∧ Below w.heap.size w w' := Any.strings_Join Tryd.lays156 Tryd.Builder_Extra_156 bk o c xs sep w hcells hbk hN hcap hlen
def Tryd.lays144_ren : Go.Shelf.Ren := ⟨fun | 144 => 13 | 143 => 29 | 219 => 43 | 217 => 53 | 225 => 54 | 224 => 55 | 267 => 56 | 266 => 66 | 314 => 67 | n => n, fun | 9 => 9 | 4 => 4 | 3 => 3 | 5 => 5 | 46 => 80 | 146 => 89 | 51 => 88 | n => n, fun | 1 => 0 | n => n⟩
theorem Tryd.lays144 : Go.Proofs.Lays.n144 Tryd.prog Tryd.lays144_ren := {
  mixed := by kernel_rfl
  f143 := Tryd.func29.trans (congrArg some (by kernel_rfl))
  f144 := Tryd.func13.trans (congrArg some (by kernel_rfl))
  f217 := Tryd.func53.trans (congrArg some (by kernel_rfl))
  f219 := Tryd.func43.trans (congrArg some (by kernel_rfl))
  f224 := Tryd.func55.trans (congrArg some (by kernel_rfl))
  f225 := Tryd.func54.trans (congrArg some (by kernel_rfl))
  f266 := Tryd.func66.trans (congrArg some (by kernel_rfl))
  f267 := Tryd.func56.trans (congrArg some (by kernel_rfl))
  f314 := Tryd.func67.trans (congrArg some (by kernel_rfl))
  t3 := Tryd.underlying3
  a3 := Tryd.isAgg3
  z3 := Tryd.sizeOf3
  v3 := Tryd.zeroValue3
  t4 := Tryd.underlying4
  a4 := Tryd.isAgg4
  z4 := Tryd.sizeOf4
  v4 := Tryd.zeroValue4
  t5 := Tryd.underlying5
  a5 := Tryd.isAgg5
  z5 := Tryd.sizeOf5
  v5 := Tryd.zeroValue5
  t9 := Tryd.underlying9
  a9 := Tryd.isAgg9
  z9 := Tryd.sizeOf9
  v9 := Tryd.zeroValue9
  t46 := Tryd.underlying80
  a46 := Tryd.isAgg80
  z46 := Tryd.sizeOf80
  v46 := Tryd.zeroValue80
  t51 := Tryd.underlying88
  a51 := Tryd.isAgg88
  z51 := Tryd.sizeOf88
  v51 := Tryd.zeroValue88
  t146 := Tryd.underlying89
  a146 := Tryd.isAgg89
  z146 := Tryd.sizeOf89
  v146 := Tryd.zeroValue89
  g1 := by kernel_rfl }
open Go.RowKit Go.Lib in
theorem Tryd.strings_Contains_one (s : ByteArray) (c : UInt8) (w : World) :
    Calls Tryd.prog 13 #[.string s, .string ⟨#[c]⟩] w fun e w' => e = .returned (.bool (decide (0 ≤ Lib.indexByte s.data.toList c))) ∧ w' = w := Any.strings_Contains_one Tryd.lays144 s c w
def Tryd.lays145_ren : Go.Shelf.Ren := ⟨fun | 145 => 20 | 220 => 37 | 219 => 43 | 217 => 53 | 225 => 54 | 224 => 55 | 267 => 56 | 266 => 66 | 314 => 67 | n => n, fun | 9 => 9 | 4 => 4 | 59 => 47 | 3 => 3 | 5 => 5 | 46 => 80 | 146 => 89 | 51 => 88 | n => n, fun | 1 => 0 | n => n⟩
theorem Tryd.lays145 : Go.Proofs.Lays.n145 Tryd.prog Tryd.lays145_ren := {
  mixed := by kernel_rfl
  f145 := Tryd.func20.trans (congrArg some (by kernel_rfl))
  f217 := Tryd.func53.trans (congrArg some (by kernel_rfl))
  f219 := Tryd.func43.trans (congrArg some (by kernel_rfl))
  f220 := Tryd.func37.trans (congrArg some (by kernel_rfl))
  f224 := Tryd.func55.trans (congrArg some (by kernel_rfl))
  f225 := Tryd.func54.trans (congrArg some (by kernel_rfl))
  f266 := Tryd.func66.trans (congrArg some (by kernel_rfl))
  f267 := Tryd.func56.trans (congrArg some (by kernel_rfl))
  f314 := Tryd.func67.trans (congrArg some (by kernel_rfl))
  t3 := Tryd.underlying3
  a3 := Tryd.isAgg3
  z3 := Tryd.sizeOf3
  v3 := Tryd.zeroValue3
  t4 := Tryd.underlying4
  a4 := Tryd.isAgg4
  z4 := Tryd.sizeOf4
  v4 := Tryd.zeroValue4
  t5 := Tryd.underlying5
  a5 := Tryd.isAgg5
  z5 := Tryd.sizeOf5
  v5 := Tryd.zeroValue5
  t9 := Tryd.underlying9
  a9 := Tryd.isAgg9
  z9 := Tryd.sizeOf9
  v9 := Tryd.zeroValue9
  t46 := Tryd.underlying80
  a46 := Tryd.isAgg80
  z46 := Tryd.sizeOf80
  v46 := Tryd.zeroValue80
  t51 := Tryd.underlying88
  a51 := Tryd.isAgg88
  z51 := Tryd.sizeOf88
  v51 := Tryd.zeroValue88
  t59 := Tryd.underlying47
  a59 := Tryd.isAgg47
  z59 := Tryd.sizeOf47
  v59 := Tryd.zeroValue47
  t146 := Tryd.underlying89
  a146 := Tryd.isAgg89
  z146 := Tryd.sizeOf89
  v146 := Tryd.zeroValue89
  g1 := by kernel_rfl }
open Go.RowKit Go.Lib in
theorem Tryd.strings_Cut (s sep : ByteArray) (m : Int) (w : World) (hs : s.size < 4294967281) (hm : w.cell? ⟨0, 0, none⟩ = some (.int .i64 m)) :
    Calls Tryd.prog 20 #[.string s, .string sep] w fun e w' => e = .returned (.tuple #[.string ⟨(Lib.cut s.data.toList sep.data.toList).1.toArray⟩, .string ⟨(Lib.cut s.data.toList sep.data.toList).2.1.toArray⟩, .bool (Lib.cut s.data.toList sep.data.toList).2.2]) ∧ ∃ n, w' = w.drewN n := Any.strings_Cut Tryd.lays145 s sep m w hs hm
def Tryd.lays146_ren : Go.Shelf.Ren := ⟨fun | 146 => 21 | 221 => 38 | 268 => 47 | 138 => 48 | 143 => 29 | 195 => 59 | 197 => 60 | 218 => 61 | 219 => 43 | 260 => 69 | 217 => 53 | 225 => 54 | 224 => 55 | 267 => 56 | 266 => 66 | 314 => 67 | n => n, fun | 9 => 9 | 31 => 49 | 3 => 3 | 4 => 4 | 0 => 0 | 105 => 84 | 21 => 21 | 5 => 5 | 46 => 80 | 119 => 91 | 139 => 94 | 138 => 93 | 146 => 89 | 51 => 88 | n => n, fun | 1 => 0 | 3 => 1 | 4 => 2 | n => n⟩
theorem Tryd.lays146 : Go.Proofs.Lays.n146 Tryd.prog Tryd.lays146_ren := {
  mixed := by kernel_rfl
  f138 := Tryd.func48.trans (congrArg some (by kernel_rfl))
  f143 := Tryd.func29.trans (congrArg some (by kernel_rfl))
  f146 := Tryd.func21.trans (congrArg some (by kernel_rfl))
  f195 := Tryd.func59.trans (congrArg some (by kernel_rfl))
  f197 := Tryd.func60.trans (congrArg some (by kernel_rfl))
  f217 := Tryd.func53.trans (congrArg some (by kernel_rfl))
  f218 := Tryd.func61.trans (congrArg some (by kernel_rfl))
  f219 := Tryd.func43.trans (congrArg some (by kernel_rfl))
  f221 := Tryd.func38.trans (congrArg some (by kernel_rfl))
  f224 := Tryd.func55.trans (congrArg some (by kernel_rfl))
  f225 := Tryd.func54.trans (congrArg some (by kernel_rfl))
  f260 := Tryd.func69.trans (congrArg some (by kernel_rfl))
  f266 := Tryd.func66.trans (congrArg some (by kernel_rfl))
  f267 := Tryd.func56.trans (congrArg some (by kernel_rfl))
  f268 := Tryd.func47.trans (congrArg some (by kernel_rfl))
  f314 := Tryd.func67.trans (congrArg some (by kernel_rfl))
  t0 := Tryd.underlying0
  a0 := Tryd.isAgg0
  z0 := Tryd.sizeOf0
  v0 := Tryd.zeroValue0
  t3 := Tryd.underlying3
  a3 := Tryd.isAgg3
  z3 := Tryd.sizeOf3
  v3 := Tryd.zeroValue3
  t4 := Tryd.underlying4
  a4 := Tryd.isAgg4
  z4 := Tryd.sizeOf4
  v4 := Tryd.zeroValue4
  t5 := Tryd.underlying5
  a5 := Tryd.isAgg5
  z5 := Tryd.sizeOf5
  v5 := Tryd.zeroValue5
  t9 := Tryd.underlying9
  a9 := Tryd.isAgg9
  z9 := Tryd.sizeOf9
  v9 := Tryd.zeroValue9
  t21 := Tryd.underlying21
  a21 := Tryd.isAgg21
  z21 := Tryd.sizeOf21
  v21 := Tryd.zeroValue21
  t31 := Tryd.underlying49
  a31 := Tryd.isAgg49
  z31 := Tryd.sizeOf49
  v31 := Tryd.zeroValue49
  t46 := Tryd.underlying80
  a46 := Tryd.isAgg80
  z46 := Tryd.sizeOf80
  v46 := Tryd.zeroValue80
  t51 := Tryd.underlying88
  a51 := Tryd.isAgg88
  z51 := Tryd.sizeOf88
  v51 := Tryd.zeroValue88
  t105 := Tryd.underlying84
  a105 := Tryd.isAgg84
  z105 := Tryd.sizeOf84
  v105 := Tryd.zeroValue84
  t119 := Tryd.underlying91
  a119 := Tryd.isAgg91
  z119 := Tryd.sizeOf91
  t138 := Tryd.underlying93
  a138 := Tryd.isAgg93
  z138 := Tryd.sizeOf93
  v138 := Tryd.zeroValue93
  t139 := Tryd.underlying94
  a139 := Tryd.isAgg94
  z139 := Tryd.sizeOf94
  v139 := Tryd.zeroValue94
  t146 := Tryd.underlying89
  a146 := Tryd.isAgg89
  z146 := Tryd.sizeOf89
  v146 := Tryd.zeroValue89
  g1 := by kernel_rfl
  g3 := by kernel_rfl
  g4 := by kernel_rfl }
open Go.RowKit Go.Lib in
theorem Tryd.strings_Split (s sep : ByteArray) (m : Int) (w : World) (hs : s.size < 4294967281) (hm : w.cell? ⟨0, 0, none⟩ = some (.int .i64 m)) (h1 : 1 ≤ sep.size) :
    Calls Tryd.prog 21 #[.string s, .string sep] w fun e w' =>
      e = .returned (.slice (some ⟨w.heap.size, 0, none⟩) (Lib.countB s sep + 1) (Lib.countB s sep + 1)) ∧ w' = w.alloc (.cells ((Lib.splitB sep 0 (Lib.countB s sep) s).map Value.string).toArray 9) := Any.strings_Split Tryd.lays146 (by kernel_rfl) s sep m w hs hm h1
end Go.Proofs
set_option linter.unusedVariables false
set_option linter.unusedSimpArgs false
set_option maxRecDepth 100000
namespace Go.Proofs.YtlhikhaailhoaaaDoor
open Go Go.Abs Go.RowKit
theorem strings_Contains_ok (s t : List UInt8) (r : Bool) (h : M.strings_Contains s t = some r) : Pure Tryd.prog 13 [.str s, .str t] (.bool r) := by
  refine pure_of_calls ⟨Tryd.f13, Tryd.func13, by rfl, by rfl⟩ fun imm w vals ha => ?_
  obtain ⟨a, b, rfl, h1, h2⟩ := vals2 ha
  unfold M.strings_Contains at h
  split at h
  · rename_i c
    cases h
    cases h1 with
    | str s l hs hb =>
      cases h2 with
      | str t l2 ht _ =>
        have := bytes_of ht; subst this
        refine (Tryd.strings_Contains_one s c w).mono fun e w' he => ?_
        obtain ⟨rfl, rfl⟩ := he
        refine ⟨_, rfl, ?_, rfl⟩
        rw [hs]
        exact .bool _
  · cases h
theorem strings_Join_ok (l : List (List UInt8)) (s : List UInt8) (r : List UInt8) (h : M.strings_Join l s = some r) : Pure Tryd.prog 28 [.sl (l.map cS), .str s] (.str r) := by
  refine pure_of_below ⟨Tryd.f28, Tryd.func28, by rfl, by rfl⟩ fun imm w vals him hgl ha => ?_
  obtain ⟨a, b, rfl, h1, h2⟩ := vals2 ha
  unfold M.strings_Join at h
  split at h
  case isFalse => cases h
  rename_i hlen
  cases h
  cases h2 with
  | str sb _ hs hb =>
    have := bytes_of hs; subst this
    cases l with
    | nil =>
      have hv : ∃ ad c, a = .slice ad 0 c := by
        cases h1 with
        | sl0 => exact ⟨none, 0, rfl⟩
        | sl ec L ad n cap vs hn hc hbd he h r => exact ⟨some ad, cap, by rw [hn]; rfl⟩
      obtain ⟨ad, c, rfl⟩ := hv
      refine (Tryd.strings_Join_none ad c _ w).mono fun e w' he => ?_
      obtain ⟨rfl, rfl⟩ := he
      refine ⟨_, rfl, .str _ _ ?_ (by simp [Lib.join_nil]), Below.refl _ _⟩
      rw [Lib.join_nil]
    | cons x l =>
      cases h1 with
      | sl ec L ad n cap vs hn hc hbd he hh rr =>
        have hec : ec = 1 := (he 0 _ rfl).symm
        subst hec
        have h0 := him _ _ (hh 0 _ rfl 0 _ rfl)
        obtain ⟨bk, o, sp⟩ := ad
        have hlt := World.block_lt_of_cell? _ _ h0
        rw [add_block] at hlt
        have hsp : sp = none := by
          cases sp with
          | none => rfl
          | some q =>
            have : ((⟨bk, o, some q⟩ : Addr).add (0 * 1 + 0)) = ⟨bk, o, some q⟩ := by simp [Addr.add]
            rw [this] at h0
            simp only [World.cell?, Option.isSome_some, if_true] at h0
            split at h0 <;> cases h0
        subst hsp
        obtain ⟨xs, h1, h2, h3⟩ : ∃ xs : List ByteArray, xs.map (·.data.toList) = x :: l ∧ xs.length = n ∧ ∀ (j : Nat) y, xs[j]? = some y → ∃ z, (x :: l)[j]? = some z ∧ (⟨z.toArray⟩ : ByteArray) = y :=
          ⟨(x :: l).map fun b => (⟨b.toArray⟩ : ByteArray), map_bytes _, by rw [hn]; simp, fun j y hy => (by obtain ⟨z, hz, e⟩ := getElem?_map_some hy; exact ⟨z, hz, e.symm⟩)⟩
        rw [← h1] at hlen
        have hcap : xs.length ≤ cap := by rw [h2]; exact hc
        have hN : xs.length ≤ 140737488355328 := by have := hlen.1; rw [List.length_map] at this; exact this
        have hcells : ∀ (j : Nat) y, xs[j]? = some y → w.cell? ⟨bk, o + j, none⟩ = some (.string y) := by
          intro j y hy
          obtain ⟨z, hz, rfl⟩ := h3 j y hy
          have hm : ((x :: l).map cS)[j]? = some (cS z) := by rw [List.getElem?_map, hz]; rfl
          have e1 := him _ _ (hh j _ hm 0 _ rfl)
          have e2 := rr j _ hm 0 (.str z) rfl
          generalize vs j 0 = u at e1 e2
          cases e2 with
          | str sz _ hsz _ =>
            have := bytes_of hsz; subst this
            have : ((⟨bk, o, none⟩ : Addr).add (j * 1 + 0)) = ⟨bk, o + j, none⟩ := by
              unfold Addr.add
              split
              · rename_i h0; have : j = 0 := by omega
                subst this; rfl
              · simp
            rw [this] at e1
            exact e1
        have hjl : (Lib.join (xs.map (·.data.toList)) (⟨s.toArray⟩ : ByteArray).data.toList).length ≤ 140737488355328 := hlen.2
        have key := Tryd.strings_Join bk o cap xs ⟨s.toArray⟩ w hcells hlt hN hcap hjl
        rw [h2] at key
        refine key.mono fun e w' he => ?_
        obtain ⟨rfl, hbel⟩ := he
        rw [h1] at hlen
        refine ⟨_, rfl, .str _ _ (by rw [h1]) (Nat.le_trans hlen.2 (by decide)), hbel⟩
end Go.Proofs.YtlhikhaailhoaaaDoor
set_option linter.unusedVariables false
set_option linter.unusedSimpArgs false
set_option maxRecDepth 100000
namespace Go.Proofs.YtlhikhaailhoaaaDoor
open Go Go.Abs Go.RowKit
theorem strings_Split_ok (s0 t0 : List UInt8) (r : List (List UInt8)) (h : M.strings_Split s0 t0 = some r) : Pure Tryd.prog 21 [.str s0, .str t0] (.sl (r.map cS)) := by
  refine ⟨⟨Tryd.f21, Tryd.func21, by rfl, by rfl⟩, fun imm w vals him hgl ha => ?_⟩
  obtain ⟨a, b, rfl, h1, h2⟩ := vals2 ha
  unfold M.strings_Split at h
  split at h
  case isFalse => cases h
  rename_i hlen
  cases h
  cases h1 with
  | str s l hs hb =>
    cases h2 with
    | str t l2 ht hb2 =>
      obtain ⟨m, hm⟩ := hgl 0 (by simp [gl])
      have z1 : s.size = s0.length := by rw [← hs]; exact Array.length_toList.symm
      have z2 : t.size = t0.length := by rw [← ht]; exact Array.length_toList.symm
      refine (Tryd.strings_Split s t m w (by omega) (him _ _ hm) (by omega)).mono fun e w' he => ?_
      obtain ⟨rfl, rfl⟩ := he
      have hle := Lib.countB_le t (by omega) s.size s (Nat.le_refl _)
      have hL := Lib.splitB_all t (by omega) 0 _ s rfl
      have hD : (Lib.splitB t 0 (Lib.countB s t) s).map (·.data.toList) = Lib.split s0 t0 := by
        rw [Lib.splitB_data, hs, ht]
        show Lib.splitK t0 0 (Lib.count s.data.toList t.data.toList) s0 = Lib.splitK t0 0 (Lib.count s0 t0) s0
        rw [hs, ht]
      generalize Lib.splitB t 0 (Lib.countB s t) s = ps at hL hD ⊢
      have hlt : ∀ x v, imm x = some v → x.block < w.heap.size := fun x v hx => World.block_lt_of_cell? _ _ (him x v hx)
      refine ⟨fun x => if x.block = w.heap.size then (w.alloc (.cells (ps.map Value.string).toArray 9)).cell? x else imm x, _, rfl, ?_, fun x v hx => ?_, fun x v hx => ?_, Below.alloc (Below.refl _ _) (Nat.le_refl _) _, fun x v hx => ?_⟩
      · refine .sl 1 _ ⟨w.heap.size, 0, none⟩ _ _ (fun i _ => Value.string (ps.getD i default)) ?_ (Nat.le_refl _) (by omega) ?_ ?_ ?_
        · rw [← hD]; simpa using hL.symm
        · intro i e he
          obtain ⟨z, _, rfl⟩ := getElem?_map_some he
          rfl
        · intro i e he j x hx
          obtain ⟨z, hz, rfl⟩ := getElem?_map_some he
          rw [← hD] at hz
          obtain ⟨p, hp, rfl⟩ := getElem?_map_some hz
          have hj : j = 0 := by
            rcases j with _ | j
            · rfl
            · simp [cS] at hx
          subst hj
          have hadd : ((⟨w.heap.size, 0, none⟩ : Addr).add (i * 1 + 0)) = ⟨w.heap.size, i, none⟩ := by
            unfold Addr.add
            split
            · rename_i h0; have : i = 0 := by omega
              subst this; rfl
            · simp
          rw [hadd]
          simp only [if_true]
          rw [World.cell?_alloc_new]
          simp [hp, List.getD_eq_getElem?_getD]
        · intro i e he j x hx
          obtain ⟨z, hz, rfl⟩ := getElem?_map_some he
          have hzl : z.length ≤ s0.length := splitK_short t0 _ s0 z (List.mem_of_getElem? hz)
          rw [← hD] at hz
          obtain ⟨p, hp, rfl⟩ := getElem?_map_some hz
          have hx' : x = .str p.data.toList := by
            rcases j with _ | j
            · simpa [cS] using hx.symm
            · simp [cS] at hx
          subst hx'
          have : ps.getD i default = p := by simp [List.getD_eq_getElem?_getD, hp]
          rw [this]
          exact .str _ _ rfl (by omega)
      · have := hlt x v hx
        show (if x.block = w.heap.size then _ else imm x) = some v
        rw [if_neg (by omega)]; exact hx
      · dsimp only at hx
        split at hx
        · exact hx
        · rw [World.cell?_alloc_lt _ _ _ (hlt x v hx)]; exact him x v hx
      · dsimp only at hx
        split at hx
        · rename_i hb; exact .inr (by omega)
        · exact .inl hx
theorem strings_Cut_ok (s0 t0 : List UInt8) (r : List UInt8 × List UInt8 × Bool) (h : M.strings_Cut s0 t0 = some r) : Pure Tryd.prog 20 [.str s0, .str t0] (.tup [.str r.1, .str r.2.1, .bool r.2.2]) := by
  refine pure_of_below ⟨Tryd.f20, Tryd.func20, by rfl, by rfl⟩ fun imm w vals him hgl ha => ?_
  obtain ⟨a, b, rfl, h1, h2⟩ := vals2 ha
  unfold M.strings_Cut at h
  split at h
  case isFalse => cases h
  rename_i hlen
  cases h
  cases h1 with
  | str s l hs hb =>
    cases h2 with
    | str t l2 ht hb2 =>
      obtain ⟨m, hm⟩ := hgl 0 (by simp [gl])
      have z1 : s.size = s0.length := by rw [← hs]; exact Array.length_toList.symm
      refine (Tryd.strings_Cut s t m w (by omega) (him _ _ hm)).mono fun e w' he => ?_
      obtain ⟨rfl, n, rfl⟩ := he
      have hc : (Lib.cut s0 t0).1.length ≤ s0.length ∧ (Lib.cut s0 t0).2.1.length ≤ s0.length := by
        unfold Lib.cut
        split
        · refine ⟨?_, ?_⟩
          · show (s0.take _).length ≤ _; rw [List.length_take]; omega
          · show (s0.drop _).length ≤ _; rw [List.length_drop]; omega
        · exact ⟨Nat.le_refl _, Nat.zero_le _⟩
      rw [hs, ht]
      refine ⟨_, rfl, .tup _ _ (by rfl) fun i x hx => ?_, ⟨rfl, rfl, rfl, Nat.le_refl _, fun _ _ => rfl⟩⟩
      match i, hx with
      | 0, hx => cases hx; exact .str _ _ rfl (by omega)
      | 1, hx => cases hx; exact .str _ _ rfl (by omega)
      | 2, hx => cases hx; exact .bool _
      | (n + 3), hx => simp at hx
end Go.Proofs.YtlhikhaailhoaaaDoor
