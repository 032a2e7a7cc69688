/- For every input the law VerifyDead returns true. Part 7 of 13. No condition. -/
import Derived.Test.YthbjlmoaceaeeaaVFf
import Derived.Test.YthbjlmoaceaeeaaProg
import Derived.KernelRfl
set_option linter.unusedVariables false
set_option linter.unusedSimpArgs false
set_option maxRecDepth 100000
set_option maxHeartbeats 1000000
namespace Go.Proofs.Ythbjlmoaceaeeaa
open Go Go.Abs
@[simp] theorem ti0 : Try.prog.info? 0 = some Try.t0 := by rfl
@[simp] theorem ti1 : Try.prog.info? 1 = some Try.t1 := by rfl
@[simp] theorem ti2 : Try.prog.info? 2 = some Try.t2 := by rfl
@[simp] theorem ti3 : Try.prog.info? 3 = some Try.t3 := by rfl
@[simp] theorem ti4 : Try.prog.info? 4 = some Try.t4 := by rfl
@[simp] theorem ti5 : Try.prog.info? 5 = some Try.t5 := by rfl
@[simp] theorem ti9 : Try.prog.info? 9 = some Try.t9 := by rfl
@[simp] theorem ti12 : Try.prog.info? 12 = some Try.t12 := by rfl
@[simp] theorem ti17 : Try.prog.info? 17 = some Try.t17 := by rfl
@[simp] theorem ti21 : Try.prog.info? 21 = some Try.t21 := by rfl
@[simp] theorem ti22 : Try.prog.info? 22 = some Try.t22 := by rfl
@[simp] theorem ti23 : Try.prog.info? 23 = some Try.t23 := by rfl
@[simp] theorem ti24 : Try.prog.info? 24 = some Try.t24 := by rfl
@[simp] theorem ti25 : Try.prog.info? 25 = some Try.t25 := by rfl
@[simp] theorem ti28 : Try.prog.info? 28 = some Try.t28 := by rfl
@[simp] theorem ti29 : Try.prog.info? 29 = some Try.t29 := by rfl
@[simp] theorem ti30 : Try.prog.info? 30 = some Try.t30 := by rfl
@[simp] theorem ti31 : Try.prog.info? 31 = some Try.t31 := by rfl
@[simp] theorem ti32 : Try.prog.info? 32 = some Try.t32 := by rfl
@[simp] theorem ti35 : Try.prog.info? 35 = some Try.t35 := by rfl
@[simp] theorem ti42 : Try.prog.info? 42 = some Try.t42 := by rfl
@[simp] theorem ti43 : Try.prog.info? 43 = some Try.t43 := by rfl
@[simp] theorem ti44 : Try.prog.info? 44 = some Try.t44 := by rfl
@[simp] theorem ti45 : Try.prog.info? 45 = some Try.t45 := by rfl
@[simp] theorem ti46 : Try.prog.info? 46 = some Try.t46 := by rfl
@[simp] theorem ti57 : Try.prog.info? 57 = some Try.t57 := by rfl
@[simp] theorem ti58 : Try.prog.info? 58 = some Try.t58 := by rfl
@[simp] theorem ti59 : Try.prog.info? 59 = some Try.t59 := by rfl
@[simp] theorem ti60 : Try.prog.info? 60 = some Try.t60 := by rfl
@[simp] theorem ti66 : Try.prog.info? 66 = some Try.t66 := by rfl
@[simp] theorem ti71 : Try.prog.info? 71 = some Try.t71 := by rfl
@[simp] theorem ti74 : Try.prog.info? 74 = some Try.t74 := by rfl
@[simp] theorem ti75 : Try.prog.info? 75 = some Try.t75 := by rfl
@[simp] theorem ti88 : Try.prog.info? 88 = some Try.t88 := by rfl
@[simp] theorem ti91 : Try.prog.info? 91 = some Try.t91 := by rfl
@[simp] theorem ti92 : Try.prog.info? 92 = some Try.t92 := by rfl
@[simp] theorem ti96 : Try.prog.info? 96 = some Try.t96 := by rfl
@[simp] theorem ti97 : Try.prog.info? 97 = some Try.t97 := by rfl
@[simp] theorem ti98 : Try.prog.info? 98 = some Try.t98 := by rfl
@[simp] theorem ti99 : Try.prog.info? 99 = some Try.t99 := by rfl
@[simp] theorem ti100 : Try.prog.info? 100 = some Try.t100 := by rfl
@[simp] theorem ti101 : Try.prog.info? 101 = some Try.t101 := by rfl
@[simp] theorem ti102 : Try.prog.info? 102 = some Try.t102 := by rfl
@[simp] theorem ti103 : Try.prog.info? 103 = some Try.t103 := by rfl
@[simp] theorem ti104 : Try.prog.info? 104 = some Try.t104 := by rfl
@[simp] theorem ti105 : Try.prog.info? 105 = some Try.t105 := by rfl
@[simp] theorem ti106 : Try.prog.info? 106 = some Try.t106 := by rfl
@[simp] theorem ti107 : Try.prog.info? 107 = some Try.t107 := by rfl
@[simp] theorem ti108 : Try.prog.info? 108 = some Try.t108 := by rfl
@[simp] theorem ti109 : Try.prog.info? 109 = some Try.t109 := by rfl
@[simp] theorem ti110 : Try.prog.info? 110 = some Try.t110 := by rfl
@[simp] theorem ti111 : Try.prog.info? 111 = some Try.t111 := by rfl
@[simp] theorem ti112 : Try.prog.info? 112 = some Try.t112 := by rfl
@[simp] theorem ti114 : Try.prog.info? 114 = some Try.t114 := by rfl
@[simp] theorem ti115 : Try.prog.info? 115 = some Try.t115 := by rfl
@[simp] theorem ti116 : Try.prog.info? 116 = some Try.t116 := by rfl
@[simp] theorem ti117 : Try.prog.info? 117 = some Try.t117 := by rfl
@[simp] theorem ti118 : Try.prog.info? 118 = some Try.t118 := by rfl
@[simp] theorem ti119 : Try.prog.info? 119 = some Try.t119 := by rfl
@[simp] theorem ti120 : Try.prog.info? 120 = some Try.t120 := by rfl
@[simp] theorem ti121 : Try.prog.info? 121 = some Try.t121 := by rfl
@[simp] theorem ti144 : Try.prog.info? 144 = some Try.t144 := by rfl
@[simp] theorem ti145 : Try.prog.info? 145 = some Try.t145 := by rfl
@[simp] theorem ti146 : Try.prog.info? 146 = some Try.t146 := by rfl
@[simp] theorem ti149 : Try.prog.info? 149 = some Try.t149 := by rfl
@[simp] theorem ti161 : Try.prog.info? 161 = some Try.t161 := by rfl
@[simp] theorem ti171 : Try.prog.info? 171 = some Try.t171 := by rfl
@[simp] theorem ti173 : Try.prog.info? 173 = some Try.t173 := by rfl
@[simp] theorem ti182 : Try.prog.info? 182 = some Try.t182 := by rfl
@[simp] theorem ti183 : Try.prog.info? 183 = some Try.t183 := by rfl
@[simp] theorem ti184 : Try.prog.info? 184 = some Try.t184 := by rfl
@[simp] theorem ti185 : Try.prog.info? 185 = some Try.t185 := by rfl
@[simp] theorem ti186 : Try.prog.info? 186 = some Try.t186 := by rfl
@[simp] theorem ti187 : Try.prog.info? 187 = some Try.t187 := by rfl
@[simp] theorem ti188 : Try.prog.info? 188 = some Try.t188 := by rfl
attribute [simp] Try.t0 Try.t1 Try.t2 Try.t3 Try.t4 Try.t5 Try.t9 Try.t12 Try.t17 Try.t21 Try.t22 Try.t23 Try.t24 Try.t25 Try.t28 Try.t29 Try.t30 Try.t31 Try.t32 Try.t35 Try.t42 Try.t43 Try.t44 Try.t45 Try.t46 Try.t57 Try.t58 Try.t59 Try.t60 Try.t66 Try.t71 Try.t74 Try.t75 Try.t88 Try.t91 Try.t92 Try.t96 Try.t97 Try.t98 Try.t99 Try.t100 Try.t101 Try.t102 Try.t103 Try.t104 Try.t105 Try.t106 Try.t107 Try.t108 Try.t109 Try.t110 Try.t111 Try.t112 Try.t114 Try.t115 Try.t116 Try.t117 Try.t118 Try.t119 Try.t120 Try.t121 Try.t144 Try.t145 Try.t146 Try.t149 Try.t161 Try.t171 Try.t173 Try.t182 Try.t183 Try.t184 Try.t185 Try.t186 Try.t187 Try.t188
@[simp] theorem cof3 : Try.prog.cellsOf 3 = 1 := by kernel_rfl
@[simp] theorem cof145 : Try.prog.cellsOf 145 = 2 := by kernel_rfl
theorem mixed : Try.prog.follows .mixedOrders = true := by kernel_rfl
theorem st {c : Code} {Q : Exit → AState → Prop} {s : AState} (h : AW Try.prog c Q s) (hc : notLoop c = true := by rfl) : AWp Try.prog c Q s := AW.step mixed hc h
theorem cutA {x y : Code} {Q : Exit → AState → Prop} {s : AState} (n base : Nat) (live : List (Nat × AV)) (blocks : List (List AV)) (h2 : AWp Try.prog y Q (mkS n base live blocks)) (h1 : AWp Try.prog x (cutK n base live blocks Q) s := by exact st (by simp)) : AWp Try.prog (.seq x y) Q s := cut n base live blocks h1 h2
theorem lastA {x y : Code} {Q : Exit → AState → Prop} {s : AState} (n base : Nat) (live : List (Nat × AV)) (blocks : List (List AV)) (h2 : AWp Try.prog y Q (mkS n base live blocks)) (h1 : AWp Try.prog x (cutK n base live blocks (seqK (AWp Try.prog y Q) Q)) s := by exact st (by simp)) : AWp Try.prog x (seqK (AWp Try.prog y Q) Q) s := last n base live blocks h1 fun s' hs => seq_le h2 hs
end Go.Proofs.Ythbjlmoaceaeeaa
