/- PatternForms: for every input the law returns true. Part 11 of 18. No condition. -/
import Derived.Test.YtipodehgjknelaaGreatDoorPFj
import Derived.Shelf.Strings.Builder1
import Derived.Shelf.Strings.Builder2
import Derived.Shelf.Strings.OnBuilder
import Derived.Shelf.Small.Strs
import Derived.Shelf.Strconv.Itoa0
import Derived.Shelf.Strconv.Itoa1
import Derived.Shelf.LaysM
import Derived.Shelf.Strconv.Itoa2
import Derived.Shelf.Strings.Search1
import Derived.Shelf.Strings.Search2
import Derived.Shelf.Strings.Search3
import Derived.Shelf.Strings.Cut
import Derived.Shelf.Strings.Count
import Derived.Shelf.Strings.Shaped
import Derived.Shelf.Strings.Split
import Derived.Shelf.Strings.Fields
import Derived.Shelf.Strings.SplitShaped
import Derived.Shelf.Unicode.Latin
import Derived.Shelf.Bits.Mul64
import Derived.Shelf.Unicode.Is16White
import Derived.Shelf.Unicode.IsSpaceAny
import Derived.Shelf.Unicode.Is16Any
import Derived.Shelf.Unicode.Is32Any
import Derived.Shelf.Unicode.ExclAny
set_option linter.unusedVariables false
set_option linter.unnecessarySimpa false
set_option linter.unusedSimpArgs false
set_option maxRecDepth 100000
set_option maxHeartbeats 1000000
namespace Go.Proofs
open Go.Shelf
def Tryz.lays156_ren : Go.Shelf.Ren := ⟨fun | 156 => 92 | 165 => 96 | 166 => 97 | 169 => 99 | 240 => 152 | 241 => 153 | 276 => 219 | 277 => 220 | n => n, fun | 31 => 23 | 9 => 9 | 3 => 3 | 4 => 4 | 0 => 0 | 20 => 20 | 72 => 148 | 76 => 152 | 70 => 146 | 37 => 91 | 75 => 151 | 127 => 200 | 164 => 233 | 5 => 5 | 80 => 154 | n => n, fun | n => n⟩
theorem Tryz.lays156 : Go.Proofs.Lays.n156 Tryz.prog Tryz.lays156_ren := {
 mixed := by kernel_rfl
 f156 := Tryz.func92.trans (congrArg some (by kernel_rfl))
 f165 := Tryz.func96.trans (congrArg some (by kernel_rfl))
 f166 := Tryz.func97.trans (congrArg some (by kernel_rfl))
 f169 := Tryz.func99.trans (congrArg some (by kernel_rfl))
 f240 := Tryz.func152.trans (congrArg some (by kernel_rfl))
 f241 := Tryz.func153.trans (congrArg some (by kernel_rfl))
 f276 := Tryz.func219.trans (congrArg some (by kernel_rfl))
 f277 := Tryz.func220.trans (congrArg some (by kernel_rfl))
 t0 := Tryz.underlying0
 a0 := Tryz.isAgg0
 z0 := Tryz.sizeOf0
 v0 := Tryz.zeroValue0
 t3 := Tryz.underlying3
 a3 := Tryz.isAgg3
 z3 := Tryz.sizeOf3
 v3 := Tryz.zeroValue3
 t4 := Tryz.underlying4
 a4 := Tryz.isAgg4
 z4 := Tryz.sizeOf4
 v4 := Tryz.zeroValue4
 t9 := Tryz.underlying9
 a9 := Tryz.isAgg9
 z9 := Tryz.sizeOf9
 v9 := Tryz.zeroValue9
 t20 := Tryz.underlying20
 a20 := Tryz.isAgg20
 z20 := Tryz.sizeOf20
 v20 := Tryz.zeroValue20
 t31 := Tryz.underlying23
 a31 := Tryz.isAgg23
 z31 := Tryz.sizeOf23
 v31 := Tryz.zeroValue23
 t37 := Tryz.underlying91
 a37 := Tryz.isAgg91
 z37 := Tryz.sizeOf91
 v37 := Tryz.zeroValue91
 t70 := Tryz.underlying146
 a70 := Tryz.isAgg146
 z70 := Tryz.sizeOf146
 v70 := Tryz.zeroValue146
 t72 := Tryz.underlying148
 a72 := Tryz.isAgg148
 z72 := Tryz.sizeOf148
 v72 := Tryz.zeroValue148
 t75 := Tryz.underlying151
 a75 := Tryz.isAgg151
 z75 := Tryz.sizeOf151
 v75 := Tryz.zeroValue151
 t76 := Tryz.underlying152
 a76 := Tryz.isAgg152
 z76 := Tryz.sizeOf152
 v76 := Tryz.zeroValue152
 t127 := Tryz.underlying200
 a127 := Tryz.isAgg200
 z127 := Tryz.sizeOf200
 v127 := Tryz.zeroValue200
 t164 := Tryz.underlying233
 a164 := Tryz.isAgg233
 z164 := Tryz.sizeOf233
 v164 := Tryz.zeroValue233 }
theorem Tryz.Builder_Extra_156 : Builder.Extra Tryz.prog Tryz.lays156_ren := {
 sizeBuilder := by kernel_rfl
 liesBuilder := by kernel_rfl
 t5 := Tryz.underlying5
 a5 := Tryz.isAgg5
 z5 := Tryz.sizeOf5
 v5 := Tryz.zeroValue5
 infoByte := by kernel_rfl
 cellsByte := by kernel_rfl
 sizeByte := by kernel_rfl
 neB5 := by decide }
open Go.RowKit in
theorem Tryz.strings_Join_none (a : Option Addr) (c : Nat) (sep : ByteArray) (w : World) :
  Calls Tryz.prog 92 #[.slice a 0 c, .string sep] w fun e w' => e = .returned (.string ⟨#[]⟩) ∧ w' = w := Any.strings_Join_none Tryz.lays156 Tryz.Builder_Extra_156 a c sep w
open Go.RowKit in
theorem Tryz.strings_Join (bk o c : Nat) (xs : List ByteArray) (sep : ByteArray) (w : World) (hcells : ∀ (j : Nat) x, xs[j]? = some x → w.cell? ⟨bk, o + j, none⟩ = some (.string x)) (hbk : bk < w.heap.size) (hN : xs.length ≤ 140737488355328) (hcap : xs.length ≤ c) (hlen : (Lib.join (xs.map (·.data.toList)) sep.data.toList).length ≤ 140737488355328) :
  Calls Tryz.prog 92 #[.slice (some ⟨bk, o, none⟩) xs.length c, .string sep] w fun e w' => e = .returned (.string ⟨(Lib.join (xs.map (·.data.toList)) sep.data.toList).toArray⟩) ∧ Below w.heap.size w w' := Any.strings_Join Tryz.lays156 Tryz.Builder_Extra_156 bk o c xs sep w hcells hbk hN hcap hlen
def Tryz.laysM171_ren : Go.Shelf.Ren := ⟨fun | 171 => 131 | 243 => 207 | 246 => 288 | 283 => 320 | 284 => 321 | 285 => 322 | 286 => 323 | 129 => 343 | 317 => 342 | 318 => 344 | 319 => 345 | 320 => 346 | 337 => 353 | 338 => 354 | n => n, fun | 3 => 3 | 9 => 9 | 2 => 2 | 4 => 4 | 171 => 286 | 0 => 0 | 53 => 197 | 37 => 91 | 5 => 5 | 173 => 289 | 212 => 301 | 51 => 194 | 20 => 20 | 213 => 302 | 46 => 143 | 232 => 322 | 233 => 323 | n => n, fun | 17 => 1 | 18 => 6 | 19 => 7 | n => n⟩
theorem Tryz.laysM171 : Go.Proofs.LaysM.n171 Tryz.prog Tryz.laysM171_ren := {
 mixed := by kernel_rfl
 f129 := Tryz.func343.trans (congrArg some (by kernel_rfl))
 f171 := Tryz.func131.trans (congrArg some (by kernel_rfl))
 f243 := Tryz.func207.trans (congrArg some (by kernel_rfl))
 f246 := Tryz.func288.trans (congrArg some (by kernel_rfl))
 f283 := Tryz.func320.trans (congrArg some (by kernel_rfl))
 f284 := Tryz.func321.trans (congrArg some (by kernel_rfl))
 f285 := Tryz.func322.trans (congrArg some (by kernel_rfl))
 f286 := Tryz.func323.trans (congrArg some (by kernel_rfl))
 f317 := Tryz.func342.trans (congrArg some (by kernel_rfl))
 f318 := Tryz.func344.trans (congrArg some (by kernel_rfl))
 f319 := Tryz.func345.trans (congrArg some (by kernel_rfl))
 f320 := Tryz.func346.trans (congrArg some (by kernel_rfl))
 f337 := Tryz.func353.trans (congrArg some (by kernel_rfl))
 f338 := Tryz.func354.trans (congrArg some (by kernel_rfl))
 t0 := Tryz.underlying0
 a0 := Tryz.isAgg0
 z0 := Tryz.sizeOf0
 v0 := Tryz.zeroValue0
 t2 := Tryz.underlying2
 a2 := Tryz.isAgg2
 z2 := Tryz.sizeOf2
 v2 := Tryz.zeroValue2
 t3 := Tryz.underlying3
 a3 := Tryz.isAgg3
 z3 := Tryz.sizeOf3
 v3 := Tryz.zeroValue3
 t4 := Tryz.underlying4
 a4 := Tryz.isAgg4
 z4 := Tryz.sizeOf4
 v4 := Tryz.zeroValue4
 t5 := Tryz.underlying5
 a5 := Tryz.isAgg5
 z5 := Tryz.sizeOf5
 v5 := Tryz.zeroValue5
 t9 := Tryz.underlying9
 a9 := Tryz.isAgg9
 z9 := Tryz.sizeOf9
 v9 := Tryz.zeroValue9
 t20 := Tryz.underlying20
 a20 := Tryz.isAgg20
 z20 := Tryz.sizeOf20
 v20 := Tryz.zeroValue20
 t37 := Tryz.underlying91
 a37 := Tryz.isAgg91
 z37 := Tryz.sizeOf91
 v37 := Tryz.zeroValue91
 t46 := Tryz.underlying143
 a46 := Tryz.isAgg143
 z46 := Tryz.sizeOf143
 v46 := Tryz.zeroValue143
 t51 := Tryz.underlying194
 a51 := Tryz.isAgg194
 z51 := Tryz.sizeOf194
 v51 := Tryz.zeroValue194
 t53 := Tryz.underlying197
 a53 := Tryz.isAgg197
 z53 := Tryz.sizeOf197
 v53 := Tryz.zeroValue197
 t171 := Tryz.underlying286
 a171 := Tryz.isAgg286
 z171 := Tryz.sizeOf286
 v171 := Tryz.zeroValue286
 t173 := Tryz.underlying289
 a173 := Tryz.isAgg289
 z173 := Tryz.sizeOf289
 v173 := Tryz.zeroValue289
 t212 := Tryz.underlying301
 a212 := Tryz.isAgg301
 z212 := Tryz.sizeOf301
 v212 := Tryz.zeroValue301
 t213 := Tryz.underlying302
 a213 := Tryz.isAgg302
 z213 := Tryz.sizeOf302
 t232 := Tryz.underlying322
 a232 := Tryz.isAgg322
 z232 := Tryz.sizeOf322
 v232 := Tryz.zeroValue322
 t233 := Tryz.underlying323
 a233 := Tryz.isAgg323
 z233 := Tryz.sizeOf323
 v233 := Tryz.zeroValue323
 g17 := by kernel_rfl
 g18 := by kernel_rfl
 g19 := by kernel_rfl
 i0 := by kernel_rfl
 i2 := by kernel_rfl
 i3 := by kernel_rfl
 i4 := by kernel_rfl
 i5 := by kernel_rfl
 i9 := by kernel_rfl
 i20 := by kernel_rfl
 i37 := by kernel_rfl
 i46 := by kernel_rfl
 i51 := by kernel_rfl
 i53 := by kernel_rfl
 i171 := by kernel_rfl
 i173 := by kernel_rfl
 i212 := by kernel_rfl
 i232 := by kernel_rfl
 i233 := by kernel_rfl
 m17 := by kernel_rfl
 m18 := by kernel_rfl
 m19 := by kernel_rfl }
open Go.RowKit Go.Sort Go.Lib in
theorem Tryz.strconv_Itoa (n : Int) (h0 : -9223372036854775808 ≤ n) (h1 : n ≤ 9223372036854775807) (w : World) (htab : Lib.TabIs Tryz.prog w "internal/strconv.uint64pow10" .u64 Lib.pow10Tab) :
  Calls Tryz.prog 131 #[.int .i64 n] w fun e w' => e = .returned (.string ⟨(Lib.itoa n).toArray⟩) ∧ ∃ k os, w' = grow (w.drewN k) os := Any.strconv_Itoa Tryz.laysM171 n h0 h1 w htab
def Tryz.lays144_ren : Go.Shelf.Ren := ⟨fun | 144 => 45 | 143 => 93 | 219 => 148 | 217 => 210 | 225 => 216 | 224 => 217 | 267 => 218 | 266 => 291 | 314 => 292 | n => n, fun | 9 => 9 | 4 => 4 | 3 => 3 | 5 => 5 | 46 => 143 | 146 => 195 | 51 => 194 | n => n, fun | 1 => 0 | n => n⟩
theorem Tryz.lays144 : Go.Proofs.Lays.n144 Tryz.prog Tryz.lays144_ren := {
 mixed := by kernel_rfl
 f143 := Tryz.func93.trans (congrArg some (by kernel_rfl))
 f144 := Tryz.func45.trans (congrArg some (by kernel_rfl))
 f217 := Tryz.func210.trans (congrArg some (by kernel_rfl))
 f219 := Tryz.func148.trans (congrArg some (by kernel_rfl))
 f224 := Tryz.func217.trans (congrArg some (by kernel_rfl))
 f225 := Tryz.func216.trans (congrArg some (by kernel_rfl))
 f266 := Tryz.func291.trans (congrArg some (by kernel_rfl))
 f267 := Tryz.func218.trans (congrArg some (by kernel_rfl))
 f314 := Tryz.func292.trans (congrArg some (by kernel_rfl))
 t3 := Tryz.underlying3
 a3 := Tryz.isAgg3
 z3 := Tryz.sizeOf3
 v3 := Tryz.zeroValue3
 t4 := Tryz.underlying4
 a4 := Tryz.isAgg4
 z4 := Tryz.sizeOf4
 v4 := Tryz.zeroValue4
 t5 := Tryz.underlying5
 a5 := Tryz.isAgg5
 z5 := Tryz.sizeOf5
 v5 := Tryz.zeroValue5
 t9 := Tryz.underlying9
 a9 := Tryz.isAgg9
 z9 := Tryz.sizeOf9
 v9 := Tryz.zeroValue9
 t46 := Tryz.underlying143
 a46 := Tryz.isAgg143
 z46 := Tryz.sizeOf143
 v46 := Tryz.zeroValue143
 t51 := Tryz.underlying194
 a51 := Tryz.isAgg194
 z51 := Tryz.sizeOf194
 v51 := Tryz.zeroValue194
 t146 := Tryz.underlying195
 a146 := Tryz.isAgg195
 z146 := Tryz.sizeOf195
 v146 := Tryz.zeroValue195
 g1 := by kernel_rfl }
open Go.RowKit Go.Lib in
theorem Tryz.strings_Contains_one (s : ByteArray) (c : UInt8) (w : World) :
  Calls Tryz.prog 45 #[.string s, .string ⟨#[c]⟩] w fun e w' => e = .returned (.bool (decide (0 ≤ Lib.indexByte s.data.toList c))) ∧ w' = w := Any.strings_Contains_one Tryz.lays144 s c w
def Tryz.lays145_ren : Go.Shelf.Ren := ⟨fun | 145 => 165 | 220 => 246 | 219 => 148 | 217 => 210 | 225 => 216 | 224 => 217 | 267 => 218 | 266 => 291 | 314 => 292 | n => n, fun | 9 => 9 | 4 => 4 | 59 => 209 | 3 => 3 | 5 => 5 | 46 => 143 | 146 => 195 | 51 => 194 | n => n, fun | 1 => 0 | n => n⟩
theorem Tryz.lays145 : Go.Proofs.Lays.n145 Tryz.prog Tryz.lays145_ren := {
 mixed := by kernel_rfl
 f145 := Tryz.func165.trans (congrArg some (by kernel_rfl))
 f217 := Tryz.func210.trans (congrArg some (by kernel_rfl))
 f219 := Tryz.func148.trans (congrArg some (by kernel_rfl))
 f220 := Tryz.func246.trans (congrArg some (by kernel_rfl))
 f224 := Tryz.func217.trans (congrArg some (by kernel_rfl))
 f225 := Tryz.func216.trans (congrArg some (by kernel_rfl))
 f266 := Tryz.func291.trans (congrArg some (by kernel_rfl))
 f267 := Tryz.func218.trans (congrArg some (by kernel_rfl))
 f314 := Tryz.func292.trans (congrArg some (by kernel_rfl))
 t3 := Tryz.underlying3
 a3 := Tryz.isAgg3
 z3 := Tryz.sizeOf3
 v3 := Tryz.zeroValue3
 t4 := Tryz.underlying4
 a4 := Tryz.isAgg4
 z4 := Tryz.sizeOf4
 v4 := Tryz.zeroValue4
 t5 := Tryz.underlying5
 a5 := Tryz.isAgg5
 z5 := Tryz.sizeOf5
 v5 := Tryz.zeroValue5
 t9 := Tryz.underlying9
 a9 := Tryz.isAgg9
 z9 := Tryz.sizeOf9
 v9 := Tryz.zeroValue9
 t46 := Tryz.underlying143
 a46 := Tryz.isAgg143
 z46 := Tryz.sizeOf143
 v46 := Tryz.zeroValue143
 t51 := Tryz.underlying194
 a51 := Tryz.isAgg194
 z51 := Tryz.sizeOf194
 v51 := Tryz.zeroValue194
 t59 := Tryz.underlying209
 a59 := Tryz.isAgg209
 z59 := Tryz.sizeOf209
 v59 := Tryz.zeroValue209
 t146 := Tryz.underlying195
 a146 := Tryz.isAgg195
 z146 := Tryz.sizeOf195
 v146 := Tryz.zeroValue195
 g1 := by kernel_rfl }
open Go.RowKit Go.Lib in
theorem Tryz.strings_Cut (s sep : ByteArray) (m : Int) (w : World) (hs : s.size < 4294967281) (hm : w.cell? ⟨0, 0, none⟩ = some (.int .i64 m)) :
  Calls Tryz.prog 165 #[.string s, .string sep] w fun e w' => e = .returned (.tuple #[.string ⟨(Lib.cut s.data.toList sep.data.toList).1.toArray⟩, .string ⟨(Lib.cut s.data.toList sep.data.toList).2.1.toArray⟩, .bool (Lib.cut s.data.toList sep.data.toList).2.2]) ∧ ∃ n, w' = w.drewN n := Any.strings_Cut Tryz.lays145 s sep m w hs hm
def Tryz.lays157_ren : Go.Shelf.Ren := ⟨fun | 157 => 324 | 229 => 347 | 199 => 348 | 261 => 355 | 311 => 356 | 312 => 357 | n => n, fun | 9 => 9 | 31 => 23 | 3 => 3 | 5 => 5 | 4 => 4 | 119 => 304 | 0 => 0 | 40 => 306 | 152 => 314 | 21 => 21 | 154 => 316 | 51 => 194 | 141 => 318 | 196 => 327 | 193 => 324 | 198 => 329 | 49 => 87 | 194 => 325 | 201 => 332 | 226 => 334 | 46 => 143 | 227 => 335 | n => n, fun | 0 => 2 | 6 => 5 | n => n⟩
theorem Tryz.lays157 : Go.Proofs.Lays.n157 Tryz.prog Tryz.lays157_ren := {
 mixed := by kernel_rfl
 f157 := Tryz.func324.trans (congrArg some (by kernel_rfl))
 f199 := Tryz.func348.trans (congrArg some (by kernel_rfl))
 f229 := Tryz.func347.trans (congrArg some (by kernel_rfl))
 f261 := Tryz.func355.trans (congrArg some (by kernel_rfl))
 f311 := Tryz.func356.trans (congrArg some (by kernel_rfl))
 f312 := Tryz.func357.trans (congrArg some (by kernel_rfl))
 t0 := Tryz.underlying0
 a0 := Tryz.isAgg0
 z0 := Tryz.sizeOf0
 v0 := Tryz.zeroValue0
 t3 := Tryz.underlying3
 a3 := Tryz.isAgg3
 z3 := Tryz.sizeOf3
 v3 := Tryz.zeroValue3
 t4 := Tryz.underlying4
 a4 := Tryz.isAgg4
 z4 := Tryz.sizeOf4
 v4 := Tryz.zeroValue4
 t5 := Tryz.underlying5
 a5 := Tryz.isAgg5
 z5 := Tryz.sizeOf5
 v5 := Tryz.zeroValue5
 t9 := Tryz.underlying9
 a9 := Tryz.isAgg9
 z9 := Tryz.sizeOf9
 v9 := Tryz.zeroValue9
 t21 := Tryz.underlying21
 a21 := Tryz.isAgg21
 z21 := Tryz.sizeOf21
 v21 := Tryz.zeroValue21
 t31 := Tryz.underlying23
 a31 := Tryz.isAgg23
 z31 := Tryz.sizeOf23
 v31 := Tryz.zeroValue23
 t40 := Tryz.underlying306
 a40 := Tryz.isAgg306
 z40 := Tryz.sizeOf306
 v40 := Tryz.zeroValue306
 t46 := Tryz.underlying143
 a46 := Tryz.isAgg143
 z46 := Tryz.sizeOf143
 v46 := Tryz.zeroValue143
 t49 := Tryz.underlying87
 a49 := Tryz.isAgg87
 z49 := Tryz.sizeOf87
 v49 := Tryz.zeroValue87
 t51 := Tryz.underlying194
 a51 := Tryz.isAgg194
 z51 := Tryz.sizeOf194
 v51 := Tryz.zeroValue194
 t119 := Tryz.underlying304
 a119 := Tryz.isAgg304
 z119 := Tryz.sizeOf304
 t141 := Tryz.underlying318
 a141 := Tryz.isAgg318
 z141 := Tryz.sizeOf318
 v141 := Tryz.zeroValue318
 t152 := Tryz.underlying314
 a152 := Tryz.isAgg314
 z152 := Tryz.sizeOf314
 v152 := Tryz.zeroValue314
 t154 := Tryz.underlying316
 a154 := Tryz.isAgg316
 z154 := Tryz.sizeOf316
 v154 := Tryz.zeroValue316
 t193 := Tryz.underlying324
 a193 := Tryz.isAgg324
 z193 := Tryz.sizeOf324
 v193 := Tryz.zeroValue324
 t194 := Tryz.underlying325
 a194 := Tryz.isAgg325
 z194 := Tryz.sizeOf325
 v194 := Tryz.zeroValue325
 t196 := Tryz.underlying327
 a196 := Tryz.isAgg327
 z196 := Tryz.sizeOf327
 v196 := Tryz.zeroValue327
 t198 := Tryz.underlying329
 a198 := Tryz.isAgg329
 z198 := Tryz.sizeOf329
 v198 := Tryz.zeroValue329
 t201 := Tryz.underlying332
 a201 := Tryz.isAgg332
 z201 := Tryz.sizeOf332
 v201 := Tryz.zeroValue332
 t226 := Tryz.underlying334
 a226 := Tryz.isAgg334
 z226 := Tryz.sizeOf334
 v226 := Tryz.zeroValue334
 t227 := Tryz.underlying335
 a227 := Tryz.isAgg335
 z227 := Tryz.sizeOf335
 v227 := Tryz.zeroValue335
 g0 := by kernel_rfl
 g6 := by kernel_rfl }
open Go.RowKit Go.Lib in
theorem Tryz.strings_Fields (s : ByteArray) (w : World) (hs : s.size < 4294967281) (hascii : ∀ (j : Nat) b, s.data.toList[j]? = some b → b.toNat < 128) (htab : Lib.TabIs Tryz.prog w "strings.asciiSpace" .u8 Lib.asciiSpaceTab) :
  Calls Tryz.prog 324 #[.string s] w fun e w' =>
   e = .returned (.slice (some ⟨w.heap.size, 0, none⟩) (Lib.fields s.data.toList).length (Lib.fields s.data.toList).length) ∧ w' = w.alloc (.cells ((Lib.fields s.data.toList).map fun l => Value.string ⟨l.toArray⟩).toArray 9) := Any.strings_Fields Tryz.lays157 (by kernel_rfl) (by kernel_rfl) s w hs hascii htab
end Go.Proofs
namespace Go.Proofs.YtipodehgjknelaaGreatDoor
open Go Go.Abs Go.RowKit
theorem vals1 {imm : Addr → Option Value} {x : AV} {vals : Array Value} (h : RepL imm [] [x] vals) : ∃ a, vals = #[a] ∧ Rep imm [] x a := by
 obtain ⟨a1, a2⟩ := h
 obtain ⟨v, rfl⟩ := Array.size_eq_one_iff.1 a1
 exact ⟨v, rfl, a2 0 _ rfl⟩
theorem tab_of {P : Program} {w : World} (h : Tabs w) {g : Nat} {k : IntKind} {zs : List Int} {name : String} (ht : (g, k, zs) ∈ tb) (hg : P.globalNamed name = some g) : Lib.TabIs P w name k zs := by
 obtain ⟨ty, fr, h1⟩ := h _ ht
 have h2 : w.heap[g]? = some (.cells (zs.map fun z => Value.int k z).toArray ty fr) := h1
 simp only [Lib.TabIs, World.var?, hg, Option.bind_some, h2]
theorem pure_of_strs {P : Program} {f : FuncId} {args : List AV} {r : List (List UInt8)} {T : TypeId} (he : Abs.Enters P f) (hn : r.length ≤ 281474976710656) (hz : ∀ z ∈ r, z.length ≤ 1152921504606846976)
  (h : ∀ (imm : Addr → Option Value) (w : World) (vals : Array Value), (∀ x v, imm x = some v → w.cell? x = some v) → GOk imm → Tabs w → RepL imm [] args vals →
   Calls P f vals w fun e w' => ∃ ps : List ByteArray, ps.map (·.data.toList) = r ∧ e = .returned (.slice (some ⟨w.heap.size, 0, none⟩) r.length r.length) ∧ w' = w.alloc (.cells (ps.map Value.string).toArray T)) :
  Pure P f args (.sl (r.map cS)) := by
 refine ⟨he, fun imm w vals him hgl htb ha => (h imm w vals him hgl htb ha).mono fun e w' he => ?_⟩
 obtain ⟨ps, hD, rfl, rfl⟩ := he
 have hlt : ∀ x v, imm x = some v → x.block < w.heap.size := fun x v hx => World.block_lt_of_cell? _ _ (him x v hx)
 refine ⟨fun x => if x.block = w.heap.size then (w.alloc (.cells (ps.map Value.string).toArray T)).cell? x else imm x, _, rfl, ?_, fun x v hx => ?_, fun x v hx => ?_, Below.alloc (Below.refl _ _) (Nat.le_refl _) _, fun x v hx => ?_⟩
 ·refine .sl 1 _ ⟨w.heap.size, 0, none⟩ _ _ (fun i _ => Value.string (ps.getD i default)) (by simp) (Nat.le_refl _) hn ?_ ?_ ?_
  ·intro i e he
   obtain ⟨z, _, rfl⟩ := getElem?_map_some he
   rfl
  ·intro i e he j x hx
   obtain ⟨z, hz', rfl⟩ := getElem?_map_some he
   rw [← hD] at hz'
   obtain ⟨p, hp, rfl⟩ := getElem?_map_some hz'
   have hj : j = 0 := by
    rcases j with _ | j
    ·rfl
    ·simp [cS] at hx
   subst hj
   have hadd : ((⟨w.heap.size, 0, none⟩ : Addr).add (i * 1 + 0)) = ⟨w.heap.size, i, none⟩ := by
    unfold Addr.add
    split
    ·rename_i h0; have : i = 0 := by omega
     subst this; rfl
    ·simp
   rw [hadd]
   simp only [if_true]
   rw [World.cell?_alloc_new]
   simp [hp, List.getD_eq_getElem?_getD]
  ·intro i e he j x hx
   obtain ⟨z, hz', rfl⟩ := getElem?_map_some he
   have hzl : z.length ≤ 1152921504606846976 := hz z (List.mem_of_getElem? hz')
   rw [← hD] at hz'
   obtain ⟨p, hp, rfl⟩ := getElem?_map_some hz'
   have hx' : x = .str p.data.toList := by
    rcases j with _ | j
    ·simpa [cS] using hx.symm
    ·simp [cS] at hx
   subst hx'
   have : ps.getD i default = p := by simp [List.getD_eq_getElem?_getD, hp]
   rw [this]
   exact .str _ _ rfl hzl
 ·have := hlt x v hx
  show (if x.block = w.heap.size then _ else imm x) = some v
  rw [if_neg (by omega)]; exact hx
 ·dsimp only at hx
  split at hx
  ·exact hx
  ·rw [World.cell?_alloc_lt _ _ _ (hlt x v hx)]; exact him x v hx
 ·dsimp only at hx
  split at hx
  ·rename_i hb; exact .inr (by omega)
  ·exact .inl hx
theorem below_grown' (w : World) (n : Nat) (os : Array Obj) : Below w.heap.size w (Go.Sort.grow (w.drewN n) os) := ⟨rfl, rfl, rfl, by show _ ≤ (w.heap ++ os).size; rw [Array.size_append]; exact Nat.le_add_right _ _, fun k hk => by show (w.heap ++ os)[k]? = _; rw [Array.getElem?_append_left hk]⟩
theorem zDI (s0 : List UInt8) (r : List (List UInt8)) (h : zBE s0 = some r) : Pure Tryz.prog 324 [.str s0] (.sl (r.map cS)) := by
 unfold zBE at h
 split at h
 case isFalse => cases h
 rename_i hc
 obtain ⟨c1, c2, c3, c4⟩ := hc
 cases h
 refine pure_of_strs (T := 9) ⟨Tryz.f324, Tryz.func324, by rfl, by rfl⟩ (by omega) (fun z hz => by have := of_decide_eq_true (List.all_eq_true.1 c4 z hz); omega) fun imm w vals him hgl htb ha => ?_
 obtain ⟨a, rfl, h1⟩ := vals1 ha
 cases h1 with
 | str s l hs hb =>
  have z1 : s.size = s0.length := by rw [← hs]; exact Array.length_toList.symm
  refine (Tryz.strings_Fields s w (by omega) (fun j b hb => ?_) (tab_of htb (g := 2) (by simp [tb, tb1, tb2]) (by kernel_rfl))).mono fun e w' he => ?_
  ·rw [hs] at hb
   exact of_decide_eq_true (List.all_eq_true.1 c2 b (List.mem_of_getElem? hb))
  ·obtain ⟨rfl, rfl⟩ := he
   rw [hs]
   refine ⟨(Lib.fields s0).map fun l => ⟨l.toArray⟩, ?_, rfl, ?_⟩
   ·rw [List.map_map]
    exact List.map_id' _
   ·rw [List.map_map]; rfl
theorem zCr (n : Int) (r : List UInt8) (h : zA8 n = some r) : Pure Tryz.prog 131 [.int .i64 n] (.str r) := by
 unfold zA8 at h
 split at h
 case isFalse => cases h
 rename_i hc
 cases h
 refine zDY ⟨Tryz.f131, Tryz.func131, by rfl, by rfl⟩ fun imm w vals him hgl htb ha => ?_
 obtain ⟨a, rfl, h1⟩ := vals1 ha
 cases h1 with
 | int k n hn =>
  have hn' : -9223372036854775808 ≤ n ∧ n ≤ 9223372036854775807 := hn
  refine (Tryz.strconv_Itoa n hn'.1 hn'.2 w (tab_of htb (g := 1) (by simp [tb, tb1, tb2]) (by kernel_rfl))).mono fun e w' he => ?_
  obtain ⟨rfl, k, os, rfl⟩ := he
  exact ⟨_, rfl, .str _ _ (by simp) (by omega), below_grown' w k os⟩
theorem zEF (s t : List UInt8) (r : Bool) (h : zCC s t = some r) : Pure Tryz.prog 45 [.str s, .str t] (.bool r) := by
 refine zDX ⟨Tryz.f45, Tryz.func45, by rfl, by rfl⟩ fun imm w vals ha => ?_
 obtain ⟨a, b, rfl, h1, h2⟩ := vals2 ha
 unfold zCC at h
 split at h
 ·rename_i c
  cases h
  cases h1 with
  | str s l hs hb =>
   cases h2 with
   | str t l2 ht _ =>
    have := bytes_of ht; subst this
    refine (Tryz.strings_Contains_one s c w).mono fun e w' he => ?_
    obtain ⟨rfl, rfl⟩ := he
    refine ⟨_, rfl, ?_, rfl⟩
    rw [hs]
    exact .bool _
 ·cases h
theorem zDx (l : List (List UInt8)) (s : List UInt8) (r : List UInt8) (h : zBx l s = some r) : Pure Tryz.prog 92 [.sl (l.map cS), .str s] (.str r) := by
 refine zDY ⟨Tryz.f92, Tryz.func92, by rfl, by rfl⟩ fun imm w vals him hgl htb ha => ?_
 obtain ⟨a, b, rfl, h1, h2⟩ := vals2 ha
 unfold zBx at h
 split at h
 case isFalse => cases h
 rename_i hlen
 cases h
 cases h2 with
 | str sb _ hs hb =>
  have := bytes_of hs; subst this
  cases l with
  | nil =>
   have hv : ∃ ad c, a = .slice ad 0 c := by
    cases h1 with
    | sl0 => exact ⟨none, 0, rfl⟩
    | sl ec L ad n cap vs hn hc hbd he h r => exact ⟨some ad, cap, by rw [hn]; rfl⟩
   obtain ⟨ad, c, rfl⟩ := hv
   refine (Tryz.strings_Join_none ad c _ w).mono fun e w' he => ?_
   obtain ⟨rfl, rfl⟩ := he
   refine ⟨_, rfl, .str _ _ ?_ (by simp [Lib.join_nil]), Below.refl _ _⟩
   rw [Lib.join_nil]
  | cons x l =>
   cases h1 with
   | sl ec L ad n cap vs hn hc hbd he hh rr =>
    have hec : ec = 1 := (he 0 _ rfl).symm
    subst hec
    have h0 := him _ _ (hh 0 _ rfl 0 _ rfl)
    obtain ⟨bk, o, sp⟩ := ad
    have hlt := World.block_lt_of_cell? _ _ h0
    rw [zCp] at hlt
    have hsp : sp = none := by
     cases sp with
     | none => rfl
     | some q =>
      have : ((⟨bk, o, some q⟩ : Addr).add (0 * 1 + 0)) = ⟨bk, o, some q⟩ := by simp [Addr.add]
      rw [this] at h0
      simp only [World.cell?, Option.isSome_some, if_true] at h0
      split at h0 <;> cases h0
    subst hsp
    obtain ⟨xs, h1, h2, h3⟩ : ∃ xs : List ByteArray, xs.map (·.data.toList) = x :: l ∧ xs.length = n ∧ ∀ (j : Nat) y, xs[j]? = some y → ∃ z, (x :: l)[j]? = some z ∧ (⟨z.toArray⟩ : ByteArray) = y :=
     ⟨(x :: l).map fun b => (⟨b.toArray⟩ : ByteArray), map_bytes _, by rw [hn]; simp, fun j y hy => (by obtain ⟨z, hz, e⟩ := getElem?_map_some hy; exact ⟨z, hz, e.symm⟩)⟩
    rw [← h1] at hlen
    have hcap : xs.length ≤ cap := by rw [h2]; exact hc
    have hN : xs.length ≤ 140737488355328 := by have := hlen.1; rw [List.length_map] at this; exact this
    have hcells : ∀ (j : Nat) y, xs[j]? = some y → w.cell? ⟨bk, o + j, none⟩ = some (.string y) := by
     intro j y hy
     obtain ⟨z, hz, rfl⟩ := h3 j y hy
     have hm : ((x :: l).map cS)[j]? = some (cS z) := by rw [List.getElem?_map, hz]; rfl
     have e1 := him _ _ (hh j _ hm 0 _ rfl)
     have e2 := rr j _ hm 0 (.str z) rfl
     generalize vs j 0 = u at e1 e2
     cases e2 with
     | str sz _ hsz _ =>
      have := bytes_of hsz; subst this
      have : ((⟨bk, o, none⟩ : Addr).add (j * 1 + 0)) = ⟨bk, o + j, none⟩ := by
       unfold Addr.add
       split
       ·rename_i h0; have : j = 0 := by omega
        subst this; rfl
       ·simp
      rw [this] at e1
      exact e1
    have hjl : (Lib.join (xs.map (·.data.toList)) (⟨s.toArray⟩ : ByteArray).data.toList).length ≤ 140737488355328 := hlen.2
    have key := Tryz.strings_Join bk o cap xs ⟨s.toArray⟩ w hcells hlt hN hcap hjl
    rw [h2] at key
    refine key.mono fun e w' he => ?_
    obtain ⟨rfl, hbel⟩ := he
    rw [h1] at hlen
    refine ⟨_, rfl, .str _ _ (by rw [h1]) (Nat.le_trans hlen.2 (by decide)), hbel⟩
end Go.Proofs.YtipodehgjknelaaGreatDoor
