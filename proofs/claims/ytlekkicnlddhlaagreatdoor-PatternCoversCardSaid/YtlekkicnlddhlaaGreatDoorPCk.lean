/- The row PatternCovers holds: what covers a pattern matches what this matches, and covering is as specified. Part 11 of 18. No condition. -/
import Derived.Test.YtlekkicnlddhlaaGreatDoorPCj
import Derived.Shelf.Strings.Builder1
import Derived.Shelf.Strings.Builder2
import Derived.Shelf.Strings.OnBuilder
import Derived.Shelf.Strconv.Itoa0
import Derived.Shelf.Strconv.Itoa1
import Derived.Shelf.LaysM
import Derived.Shelf.Strconv.Itoa2
import Derived.Shelf.Strings.Search1
import Derived.Shelf.Strings.Search2
import Derived.Shelf.Strings.Cut
import Derived.Shelf.Strings.Shaped
import Derived.Shelf.Strings.Fields
import Derived.Shelf.Strings.SplitShaped
import Derived.Shelf.Unicode.Latin
import Derived.Shelf.Unicode.Is16White
import Derived.Shelf.Unicode.IsSpaceAny
import Derived.Shelf.Unicode.Is16Any
import Derived.Shelf.Unicode.Is32Any
import Derived.Shelf.Unicode.ExclAny
set_option linter.unusedVariables false
set_option linter.unnecessarySimpa false
set_option linter.unusedSimpArgs false
set_option maxRecDepth 100000
set_option maxHeartbeats 1000000
namespace Go.Proofs
open Go.Shelf
def Tryz.lays156_ren : Go.Shelf.Ren := ⟨fun | 156 => 71 | 165 => 114 | 166 => 108 | 169 => 69 | 240 => 139 | 241 => 142 | 276 => 165 | 277 => 171 | n => n, fun | 31 => 25 | 9 => 9 | 3 => 3 | 4 => 4 | 0 => 0 | 20 => 20 | 72 => 113 | 76 => 143 | 70 => 111 | 37 => 39 | 75 => 134 | 127 => 147 | 164 => 180 | 5 => 5 | 80 => 108 | n => n, fun | n => n⟩
theorem Tryz.lays156 : Go.Proofs.Lays.n156 Tryz.prog Tryz.lays156_ren := {
 mixed := by kernel_rfl
 f156 := Tryz.func71.trans (congrArg some (by kernel_rfl))
 f165 := Tryz.func114.trans (congrArg some (by kernel_rfl))
 f166 := Tryz.func108.trans (congrArg some (by kernel_rfl))
 f169 := Tryz.func69.trans (congrArg some (by kernel_rfl))
 f240 := Tryz.func139.trans (congrArg some (by kernel_rfl))
 f241 := Tryz.func142.trans (congrArg some (by kernel_rfl))
 f276 := Tryz.func165.trans (congrArg some (by kernel_rfl))
 f277 := Tryz.func171.trans (congrArg some (by kernel_rfl))
 t0 := Tryz.underlying0
 a0 := Tryz.isAgg0
 z0 := Tryz.sizeOf0
 v0 := Tryz.zeroValue0
 t3 := Tryz.underlying3
 a3 := Tryz.isAgg3
 z3 := Tryz.sizeOf3
 v3 := Tryz.zeroValue3
 t4 := Tryz.underlying4
 a4 := Tryz.isAgg4
 z4 := Tryz.sizeOf4
 v4 := Tryz.zeroValue4
 t9 := Tryz.underlying9
 a9 := Tryz.isAgg9
 z9 := Tryz.sizeOf9
 v9 := Tryz.zeroValue9
 t20 := Tryz.underlying20
 a20 := Tryz.isAgg20
 z20 := Tryz.sizeOf20
 v20 := Tryz.zeroValue20
 t31 := Tryz.underlying25
 a31 := Tryz.isAgg25
 z31 := Tryz.sizeOf25
 v31 := Tryz.zeroValue25
 t37 := Tryz.underlying39
 a37 := Tryz.isAgg39
 z37 := Tryz.sizeOf39
 v37 := Tryz.zeroValue39
 t70 := Tryz.underlying111
 a70 := Tryz.isAgg111
 z70 := Tryz.sizeOf111
 v70 := Tryz.zeroValue111
 t72 := Tryz.underlying113
 a72 := Tryz.isAgg113
 z72 := Tryz.sizeOf113
 v72 := Tryz.zeroValue113
 t75 := Tryz.underlying134
 a75 := Tryz.isAgg134
 z75 := Tryz.sizeOf134
 v75 := Tryz.zeroValue134
 t76 := Tryz.underlying143
 a76 := Tryz.isAgg143
 z76 := Tryz.sizeOf143
 v76 := Tryz.zeroValue143
 t127 := Tryz.underlying147
 a127 := Tryz.isAgg147
 z127 := Tryz.sizeOf147
 v127 := Tryz.zeroValue147
 t164 := Tryz.underlying180
 a164 := Tryz.isAgg180
 z164 := Tryz.sizeOf180
 v164 := Tryz.zeroValue180 }
theorem Tryz.Builder_Extra_156 : Builder.Extra Tryz.prog Tryz.lays156_ren := {
 sizeBuilder := by kernel_rfl
 liesBuilder := by kernel_rfl
 t5 := Tryz.underlying5
 a5 := Tryz.isAgg5
 z5 := Tryz.sizeOf5
 v5 := Tryz.zeroValue5
 infoByte := by kernel_rfl
 cellsByte := by kernel_rfl
 sizeByte := by kernel_rfl
 neB5 := by decide }
open Go.RowKit in
theorem Tryz.strings_Join_none (a : Option Addr) (c : Nat) (sep : ByteArray) (w : World) :
  Calls Tryz.prog 71 #[.slice a 0 c, .string sep] w fun e w' => e = .returned (.string ⟨#[]⟩) ∧ w' = w := Any.strings_Join_none Tryz.lays156 Tryz.Builder_Extra_156 a c sep w
open Go.RowKit in
theorem Tryz.strings_Join (bk o c : Nat) (xs : List ByteArray) (sep : ByteArray) (w : World) (hcells : ∀ (j : Nat) x, xs[j]? = some x → w.cell? ⟨bk, o + j, none⟩ = some (.string x)) (hbk : bk < w.heap.size) (hN : xs.length ≤ 140737488355328) (hcap : xs.length ≤ c) (hlen : (Lib.join (xs.map (·.data.toList)) sep.data.toList).length ≤ 140737488355328) :
  Calls Tryz.prog 71 #[.slice (some ⟨bk, o, none⟩) xs.length c, .string sep] w fun e w' => e = .returned (.string ⟨(Lib.join (xs.map (·.data.toList)) sep.data.toList).toArray⟩) ∧ Below w.heap.size w w' := Any.strings_Join Tryz.lays156 Tryz.Builder_Extra_156 bk o c xs sep w hcells hbk hN hcap hlen
def Tryz.laysM171_ren : Go.Shelf.Ren := ⟨fun | 171 => 70 | 243 => 113 | 246 => 141 | 283 => 167 | 284 => 168 | 285 => 169 | 286 => 170 | 129 => 185 | 317 => 184 | 318 => 186 | 319 => 187 | 320 => 188 | 337 => 193 | 338 => 194 | n => n, fun | 3 => 3 | 9 => 9 | 2 => 2 | 4 => 4 | 171 => 182 | 0 => 0 | 53 => 132 | 37 => 39 | 5 => 5 | 173 => 185 | 212 => 200 | 51 => 191 | 20 => 20 | 213 => 201 | 46 => 173 | 232 => 215 | 233 => 216 | n => n, fun | 17 => 3 | 18 => 6 | 19 => 7 | n => n⟩
theorem Tryz.laysM171 : Go.Proofs.LaysM.n171 Tryz.prog Tryz.laysM171_ren := {
 mixed := by kernel_rfl
 f129 := Tryz.func185.trans (congrArg some (by kernel_rfl))
 f171 := Tryz.func70.trans (congrArg some (by kernel_rfl))
 f243 := Tryz.func113.trans (congrArg some (by kernel_rfl))
 f246 := Tryz.func141.trans (congrArg some (by kernel_rfl))
 f283 := Tryz.func167.trans (congrArg some (by kernel_rfl))
 f284 := Tryz.func168.trans (congrArg some (by kernel_rfl))
 f285 := Tryz.func169.trans (congrArg some (by kernel_rfl))
 f286 := Tryz.func170.trans (congrArg some (by kernel_rfl))
 f317 := Tryz.func184.trans (congrArg some (by kernel_rfl))
 f318 := Tryz.func186.trans (congrArg some (by kernel_rfl))
 f319 := Tryz.func187.trans (congrArg some (by kernel_rfl))
 f320 := Tryz.func188.trans (congrArg some (by kernel_rfl))
 f337 := Tryz.func193.trans (congrArg some (by kernel_rfl))
 f338 := Tryz.func194.trans (congrArg some (by kernel_rfl))
 t0 := Tryz.underlying0
 a0 := Tryz.isAgg0
 z0 := Tryz.sizeOf0
 v0 := Tryz.zeroValue0
 t2 := Tryz.underlying2
 a2 := Tryz.isAgg2
 z2 := Tryz.sizeOf2
 v2 := Tryz.zeroValue2
 t3 := Tryz.underlying3
 a3 := Tryz.isAgg3
 z3 := Tryz.sizeOf3
 v3 := Tryz.zeroValue3
 t4 := Tryz.underlying4
 a4 := Tryz.isAgg4
 z4 := Tryz.sizeOf4
 v4 := Tryz.zeroValue4
 t5 := Tryz.underlying5
 a5 := Tryz.isAgg5
 z5 := Tryz.sizeOf5
 v5 := Tryz.zeroValue5
 t9 := Tryz.underlying9
 a9 := Tryz.isAgg9
 z9 := Tryz.sizeOf9
 v9 := Tryz.zeroValue9
 t20 := Tryz.underlying20
 a20 := Tryz.isAgg20
 z20 := Tryz.sizeOf20
 v20 := Tryz.zeroValue20
 t37 := Tryz.underlying39
 a37 := Tryz.isAgg39
 z37 := Tryz.sizeOf39
 v37 := Tryz.zeroValue39
 t46 := Tryz.underlying173
 a46 := Tryz.isAgg173
 z46 := Tryz.sizeOf173
 v46 := Tryz.zeroValue173
 t51 := Tryz.underlying191
 a51 := Tryz.isAgg191
 z51 := Tryz.sizeOf191
 v51 := Tryz.zeroValue191
 t53 := Tryz.underlying132
 a53 := Tryz.isAgg132
 z53 := Tryz.sizeOf132
 v53 := Tryz.zeroValue132
 t171 := Tryz.underlying182
 a171 := Tryz.isAgg182
 z171 := Tryz.sizeOf182
 v171 := Tryz.zeroValue182
 t173 := Tryz.underlying185
 a173 := Tryz.isAgg185
 z173 := Tryz.sizeOf185
 v173 := Tryz.zeroValue185
 t212 := Tryz.underlying200
 a212 := Tryz.isAgg200
 z212 := Tryz.sizeOf200
 v212 := Tryz.zeroValue200
 t213 := Tryz.underlying201
 a213 := Tryz.isAgg201
 z213 := Tryz.sizeOf201
 t232 := Tryz.underlying215
 a232 := Tryz.isAgg215
 z232 := Tryz.sizeOf215
 v232 := Tryz.zeroValue215
 t233 := Tryz.underlying216
 a233 := Tryz.isAgg216
 z233 := Tryz.sizeOf216
 v233 := Tryz.zeroValue216
 g17 := by kernel_rfl
 g18 := by kernel_rfl
 g19 := by kernel_rfl
 i0 := by kernel_rfl
 i2 := by kernel_rfl
 i3 := by kernel_rfl
 i4 := by kernel_rfl
 i5 := by kernel_rfl
 i9 := by kernel_rfl
 i20 := by kernel_rfl
 i37 := by kernel_rfl
 i46 := by kernel_rfl
 i51 := by kernel_rfl
 i53 := by kernel_rfl
 i171 := by kernel_rfl
 i173 := by kernel_rfl
 i212 := by kernel_rfl
 i232 := by kernel_rfl
 i233 := by kernel_rfl
 m17 := by kernel_rfl
 m18 := by kernel_rfl
 m19 := by kernel_rfl }
open Go.RowKit Go.Sort Go.Lib in
theorem Tryz.strconv_Itoa (n : Int) (h0 : -9223372036854775808 ≤ n) (h1 : n ≤ 9223372036854775807) (w : World) (htab : Lib.TabIs Tryz.prog w "internal/strconv.uint64pow10" .u64 Lib.pow10Tab) :
  Calls Tryz.prog 70 #[.int .i64 n] w fun e w' => e = .returned (.string ⟨(Lib.itoa n).toArray⟩) ∧ ∃ k os, w' = grow (w.drewN k) os := Any.strconv_Itoa Tryz.laysM171 n h0 h1 w htab
def Tryz.lays145_ren : Go.Shelf.Ren := ⟨fun | 145 => 61 | 220 => 97 | 219 => 135 | 217 => 154 | 225 => 155 | 224 => 156 | 267 => 157 | 266 => 179 | 314 => 180 | n => n, fun | 9 => 9 | 4 => 4 | 59 => 106 | 3 => 3 | 5 => 5 | 46 => 173 | 146 => 192 | 51 => 191 | n => n, fun | 1 => 0 | n => n⟩
theorem Tryz.lays145 : Go.Proofs.Lays.n145 Tryz.prog Tryz.lays145_ren := {
 mixed := by kernel_rfl
 f145 := Tryz.func61.trans (congrArg some (by kernel_rfl))
 f217 := Tryz.func154.trans (congrArg some (by kernel_rfl))
 f219 := Tryz.func135.trans (congrArg some (by kernel_rfl))
 f220 := Tryz.func97.trans (congrArg some (by kernel_rfl))
 f224 := Tryz.func156.trans (congrArg some (by kernel_rfl))
 f225 := Tryz.func155.trans (congrArg some (by kernel_rfl))
 f266 := Tryz.func179.trans (congrArg some (by kernel_rfl))
 f267 := Tryz.func157.trans (congrArg some (by kernel_rfl))
 f314 := Tryz.func180.trans (congrArg some (by kernel_rfl))
 t3 := Tryz.underlying3
 a3 := Tryz.isAgg3
 z3 := Tryz.sizeOf3
 v3 := Tryz.zeroValue3
 t4 := Tryz.underlying4
 a4 := Tryz.isAgg4
 z4 := Tryz.sizeOf4
 v4 := Tryz.zeroValue4
 t5 := Tryz.underlying5
 a5 := Tryz.isAgg5
 z5 := Tryz.sizeOf5
 v5 := Tryz.zeroValue5
 t9 := Tryz.underlying9
 a9 := Tryz.isAgg9
 z9 := Tryz.sizeOf9
 v9 := Tryz.zeroValue9
 t46 := Tryz.underlying173
 a46 := Tryz.isAgg173
 z46 := Tryz.sizeOf173
 v46 := Tryz.zeroValue173
 t51 := Tryz.underlying191
 a51 := Tryz.isAgg191
 z51 := Tryz.sizeOf191
 v51 := Tryz.zeroValue191
 t59 := Tryz.underlying106
 a59 := Tryz.isAgg106
 z59 := Tryz.sizeOf106
 v59 := Tryz.zeroValue106
 t146 := Tryz.underlying192
 a146 := Tryz.isAgg192
 z146 := Tryz.sizeOf192
 v146 := Tryz.zeroValue192
 g1 := by kernel_rfl }
open Go.RowKit Go.Lib in
theorem Tryz.strings_Cut (s sep : ByteArray) (m : Int) (w : World) (hs : s.size < 4294967281) (hm : w.cell? ⟨0, 0, none⟩ = some (.int .i64 m)) :
  Calls Tryz.prog 61 #[.string s, .string sep] w fun e w' => e = .returned (.tuple #[.string ⟨(Lib.cut s.data.toList sep.data.toList).1.toArray⟩, .string ⟨(Lib.cut s.data.toList sep.data.toList).2.1.toArray⟩, .bool (Lib.cut s.data.toList sep.data.toList).2.2]) ∧ ∃ n, w' = w.drewN n := Any.strings_Cut Tryz.lays145 s sep m w hs hm
def Tryz.lays157_ren : Go.Shelf.Ren := ⟨fun | 157 => 173 | 229 => 190 | 199 => 191 | 261 => 195 | 311 => 196 | 312 => 197 | n => n, fun | 9 => 9 | 31 => 25 | 3 => 3 | 5 => 5 | 4 => 4 | 119 => 203 | 0 => 0 | 40 => 205 | 152 => 210 | 21 => 21 | 154 => 212 | 51 => 191 | 141 => 214 | 196 => 220 | 193 => 217 | 198 => 223 | 49 => 221 | 194 => 218 | 201 => 226 | 226 => 228 | 46 => 173 | 227 => 229 | n => n, fun | 0 => 4 | 6 => 5 | n => n⟩
theorem Tryz.lays157 : Go.Proofs.Lays.n157 Tryz.prog Tryz.lays157_ren := {
 mixed := by kernel_rfl
 f157 := Tryz.func173.trans (congrArg some (by kernel_rfl))
 f199 := Tryz.func191.trans (congrArg some (by kernel_rfl))
 f229 := Tryz.func190.trans (congrArg some (by kernel_rfl))
 f261 := Tryz.func195.trans (congrArg some (by kernel_rfl))
 f311 := Tryz.func196.trans (congrArg some (by kernel_rfl))
 f312 := Tryz.func197.trans (congrArg some (by kernel_rfl))
 t0 := Tryz.underlying0
 a0 := Tryz.isAgg0
 z0 := Tryz.sizeOf0
 v0 := Tryz.zeroValue0
 t3 := Tryz.underlying3
 a3 := Tryz.isAgg3
 z3 := Tryz.sizeOf3
 v3 := Tryz.zeroValue3
 t4 := Tryz.underlying4
 a4 := Tryz.isAgg4
 z4 := Tryz.sizeOf4
 v4 := Tryz.zeroValue4
 t5 := Tryz.underlying5
 a5 := Tryz.isAgg5
 z5 := Tryz.sizeOf5
 v5 := Tryz.zeroValue5
 t9 := Tryz.underlying9
 a9 := Tryz.isAgg9
 z9 := Tryz.sizeOf9
 v9 := Tryz.zeroValue9
 t21 := Tryz.underlying21
 a21 := Tryz.isAgg21
 z21 := Tryz.sizeOf21
 v21 := Tryz.zeroValue21
 t31 := Tryz.underlying25
 a31 := Tryz.isAgg25
 z31 := Tryz.sizeOf25
 v31 := Tryz.zeroValue25
 t40 := Tryz.underlying205
 a40 := Tryz.isAgg205
 z40 := Tryz.sizeOf205
 v40 := Tryz.zeroValue205
 t46 := Tryz.underlying173
 a46 := Tryz.isAgg173
 z46 := Tryz.sizeOf173
 v46 := Tryz.zeroValue173
 t49 := Tryz.underlying221
 a49 := Tryz.isAgg221
 z49 := Tryz.sizeOf221
 v49 := Tryz.zeroValue221
 t51 := Tryz.underlying191
 a51 := Tryz.isAgg191
 z51 := Tryz.sizeOf191
 v51 := Tryz.zeroValue191
 t119 := Tryz.underlying203
 a119 := Tryz.isAgg203
 z119 := Tryz.sizeOf203
 t141 := Tryz.underlying214
 a141 := Tryz.isAgg214
 z141 := Tryz.sizeOf214
 v141 := Tryz.zeroValue214
 t152 := Tryz.underlying210
 a152 := Tryz.isAgg210
 z152 := Tryz.sizeOf210
 v152 := Tryz.zeroValue210
 t154 := Tryz.underlying212
 a154 := Tryz.isAgg212
 z154 := Tryz.sizeOf212
 v154 := Tryz.zeroValue212
 t193 := Tryz.underlying217
 a193 := Tryz.isAgg217
 z193 := Tryz.sizeOf217
 v193 := Tryz.zeroValue217
 t194 := Tryz.underlying218
 a194 := Tryz.isAgg218
 z194 := Tryz.sizeOf218
 v194 := Tryz.zeroValue218
 t196 := Tryz.underlying220
 a196 := Tryz.isAgg220
 z196 := Tryz.sizeOf220
 v196 := Tryz.zeroValue220
 t198 := Tryz.underlying223
 a198 := Tryz.isAgg223
 z198 := Tryz.sizeOf223
 v198 := Tryz.zeroValue223
 t201 := Tryz.underlying226
 a201 := Tryz.isAgg226
 z201 := Tryz.sizeOf226
 v201 := Tryz.zeroValue226
 t226 := Tryz.underlying228
 a226 := Tryz.isAgg228
 z226 := Tryz.sizeOf228
 v226 := Tryz.zeroValue228
 t227 := Tryz.underlying229
 a227 := Tryz.isAgg229
 z227 := Tryz.sizeOf229
 v227 := Tryz.zeroValue229
 g0 := by kernel_rfl
 g6 := by kernel_rfl }
open Go.RowKit Go.Lib in
theorem Tryz.strings_Fields (s : ByteArray) (w : World) (hs : s.size < 4294967281) (hascii : ∀ (j : Nat) b, s.data.toList[j]? = some b → b.toNat < 128) (htab : Lib.TabIs Tryz.prog w "strings.asciiSpace" .u8 Lib.asciiSpaceTab) :
  Calls Tryz.prog 173 #[.string s] w fun e w' =>
   e = .returned (.slice (some ⟨w.heap.size, 0, none⟩) (Lib.fields s.data.toList).length (Lib.fields s.data.toList).length) ∧ w' = w.alloc (.cells ((Lib.fields s.data.toList).map fun l => Value.string ⟨l.toArray⟩).toArray 9) := Any.strings_Fields Tryz.lays157 (by kernel_rfl) (by kernel_rfl) s w hs hascii htab
end Go.Proofs
namespace Go.Proofs.YtlekkicnlddhlaaGreatDoor
open Go Go.Abs Go.RowKit
theorem vals1 {imm : Addr → Option Value} {x : AV} {vals : Array Value} (h : RepL imm [] [x] vals) : ∃ a, vals = #[a] ∧ Rep imm [] x a := by
 obtain ⟨a1, a2⟩ := h
 obtain ⟨v, rfl⟩ := Array.size_eq_one_iff.1 a1
 exact ⟨v, rfl, a2 0 _ rfl⟩
theorem tab_of {P : Program} {w : World} (h : Tabs w) {g : Nat} {k : IntKind} {zs : List Int} {name : String} (ht : (g, k, zs) ∈ tb) (hg : P.globalNamed name = some g) : Lib.TabIs P w name k zs := by
 obtain ⟨ty, fr, h1⟩ := h _ ht
 have h2 : w.heap[g]? = some (.cells (zs.map fun z => Value.int k z).toArray ty fr) := h1
 simp only [Lib.TabIs, World.var?, hg, Option.bind_some, h2]
theorem pure_of_strs {P : Program} {f : FuncId} {args : List AV} {r : List (List UInt8)} {T : TypeId} (he : Abs.Enters P f) (hn : r.length ≤ 281474976710656) (hz : ∀ z ∈ r, z.length ≤ 1152921504606846976)
  (h : ∀ (imm : Addr → Option Value) (w : World) (vals : Array Value), (∀ x v, imm x = some v → w.cell? x = some v) → GOk imm → Tabs w → RepL imm [] args vals →
   Calls P f vals w fun e w' => ∃ ps : List ByteArray, ps.map (·.data.toList) = r ∧ e = .returned (.slice (some ⟨w.heap.size, 0, none⟩) r.length r.length) ∧ w' = w.alloc (.cells (ps.map Value.string).toArray T)) :
  Pure P f args (.sl (r.map cS)) := by
 refine ⟨he, fun imm w vals him hgl htb ha => (h imm w vals him hgl htb ha).mono fun e w' he => ?_⟩
 obtain ⟨ps, hD, rfl, rfl⟩ := he
 have hlt : ∀ x v, imm x = some v → x.block < w.heap.size := fun x v hx => World.block_lt_of_cell? _ _ (him x v hx)
 refine ⟨fun x => if x.block = w.heap.size then (w.alloc (.cells (ps.map Value.string).toArray T)).cell? x else imm x, _, rfl, ?_, fun x v hx => ?_, fun x v hx => ?_, Below.alloc (Below.refl _ _) (Nat.le_refl _) _, fun x v hx => ?_⟩
 ·refine .sl 1 _ ⟨w.heap.size, 0, none⟩ _ _ (fun i _ => Value.string (ps.getD i default)) (by simp) (Nat.le_refl _) hn ?_ ?_ ?_
  ·intro i e he
   obtain ⟨z, _, rfl⟩ := getElem?_map_some he
   rfl
  ·intro i e he j x hx
   obtain ⟨z, hz', rfl⟩ := getElem?_map_some he
   rw [← hD] at hz'
   obtain ⟨p, hp, rfl⟩ := getElem?_map_some hz'
   have hj : j = 0 := by
    rcases j with _ | j
    ·rfl
    ·simp [cS] at hx
   subst hj
   have hadd : ((⟨w.heap.size, 0, none⟩ : Addr).add (i * 1 + 0)) = ⟨w.heap.size, i, none⟩ := by
    unfold Addr.add
    split
    ·rename_i h0; have : i = 0 := by omega
     subst this; rfl
    ·simp
   rw [hadd]
   simp only [if_true]
   rw [World.cell?_alloc_new]
   simp [hp, List.getD_eq_getElem?_getD]
  ·intro i e he j x hx
   obtain ⟨z, hz', rfl⟩ := getElem?_map_some he
   have hzl : z.length ≤ 1152921504606846976 := hz z (List.mem_of_getElem? hz')
   rw [← hD] at hz'
   obtain ⟨p, hp, rfl⟩ := getElem?_map_some hz'
   have hx' : x = .str p.data.toList := by
    rcases j with _ | j
    ·simpa [cS] using hx.symm
    ·simp [cS] at hx
   subst hx'
   have : ps.getD i default = p := by simp [List.getD_eq_getElem?_getD, hp]
   rw [this]
   exact .str _ _ rfl hzl
 ·have := hlt x v hx
  show (if x.block = w.heap.size then _ else imm x) = some v
  rw [if_neg (by omega)]; exact hx
 ·dsimp only at hx
  split at hx
  ·exact hx
  ·rw [World.cell?_alloc_lt _ _ _ (hlt x v hx)]; exact him x v hx
 ·dsimp only at hx
  split at hx
  ·rename_i hb; exact .inr (by omega)
  ·exact .inl hx
theorem below_grown' (w : World) (n : Nat) (os : Array Obj) : Below w.heap.size w (Go.Sort.grow (w.drewN n) os) := ⟨rfl, rfl, rfl, by show _ ≤ (w.heap ++ os).size; rw [Array.size_append]; exact Nat.le_add_right _ _, fun k hk => by show (w.heap ++ os)[k]? = _; rw [Array.getElem?_append_left hk]⟩
theorem zDn (s0 : List UInt8) (r : List (List UInt8)) (h : zBa s0 = some r) : Pure Tryz.prog 173 [.str s0] (.sl (r.map cS)) := by
 unfold zBa at h
 split at h
 case isFalse => cases h
 rename_i hc
 obtain ⟨c1, c2, c3, c4⟩ := hc
 cases h
 refine pure_of_strs (T := 9) ⟨Tryz.f173, Tryz.func173, by rfl, by rfl⟩ (by omega) (fun z hz => by have := of_decide_eq_true (List.all_eq_true.1 c4 z hz); omega) fun imm w vals him hgl htb ha => ?_
 obtain ⟨a, rfl, h1⟩ := vals1 ha
 cases h1 with
 | str s l hs hb =>
  have z1 : s.size = s0.length := by rw [← hs]; exact Array.length_toList.symm
  refine (Tryz.strings_Fields s w (by omega) (fun j b hb => ?_) (tab_of htb (g := 4) (by simp [tb, tb1, tb2]) (by kernel_rfl))).mono fun e w' he => ?_
  ·rw [hs] at hb
   exact of_decide_eq_true (List.all_eq_true.1 c2 b (List.mem_of_getElem? hb))
  ·obtain ⟨rfl, rfl⟩ := he
   rw [hs]
   refine ⟨(Lib.fields s0).map fun l => ⟨l.toArray⟩, ?_, rfl, ?_⟩
   ·rw [List.map_map]
    exact List.map_id' _
   ·rw [List.map_map]; rfl
theorem zEX (n : Int) (r : List UInt8) (h : zB0 n = some r) : Pure Tryz.prog 70 [.int .i64 n] (.str r) := by
 unfold zB0 at h
 split at h
 case isFalse => cases h
 rename_i hc
 cases h
 refine zD1 ⟨Tryz.f70, Tryz.func70, by rfl, by rfl⟩ fun imm w vals him hgl htb ha => ?_
 obtain ⟨a, rfl, h1⟩ := vals1 ha
 cases h1 with
 | int k n hn =>
  have hn' : -9223372036854775808 ≤ n ∧ n ≤ 9223372036854775807 := hn
  refine (Tryz.strconv_Itoa n hn'.1 hn'.2 w (tab_of htb (g := 3) (by simp [tb, tb1, tb2]) (by kernel_rfl))).mono fun e w' he => ?_
  obtain ⟨rfl, k, os, rfl⟩ := he
  exact ⟨_, rfl, .str _ _ (by simp) (by omega), below_grown' w k os⟩
end Go.Proofs.YtlekkicnlddhlaaGreatDoor
