/- PatternForms: for every input the law returns true. Part 14 of 18. No condition. -/
import Derived.Test.YtipodehgjknelaaGreatDoorPFm
import Derived.Test.YtipodehgjknelaaGreatDoorRows
import Derived.Shelf.Vars
import Derived.Lib.LaidU8
import Derived.Lib.LaidTab
import Derived.Stop.Joined
set_option linter.unusedVariables false
set_option linter.unnecessarySimpa false
set_option linter.unusedSimpArgs false
set_option maxRecDepth 100000
set_option maxHeartbeats 1000000
namespace Go.Proofs.YtipodehgjknelaaGreatDoor
open Go Go.Abs
theorem op42 (n : Nat) : zEp Tryz.prog n 42 zGr.c (fun _ => True) := by
 induction n using Nat.strongRecOn with
 | _ n ih =>
  exact zGZ Tryz.underlying42 (N := 4) (by kernel_rfl) (fun p => ⟨p.1, p.2.1, p.2.2.1, p.2.2.2.1⟩) (fun p => by simp) (fun _ _ => trivial) (fun k hk =>
   zCn rfl (k := 1) (by kernel_rfl) (zF3 Tryz.underlying3 k) (zCn rfl (k := 1) (by kernel_rfl) (zF3 Tryz.underlying3 k)
    (zCn rfl (k := 1) (by kernel_rfl) (opensAt_str Tryz.underlying9 k)
     (zCn rfl (k := 1) (by kernel_rfl) (opensAt_slice Tryz.underlying40 (m := 4) (b := 56) (by kernel_rfl) (by kernel_rfl) (by decide) (fun a => by simp) (fun j hj => ih j (by omega))) (fieldsAt_nil (by decide))))))
theorem own : ownKnob Tryz.prog.godebug = none := by kernel_rfl
theorem laid : laidOutB Tryz.prog = true := by kernel_rfl
theorem tab_reads {W : World} {name : String} {k : IntKind} {zs : List Int} {g : Nat} {t e : TypeId} {n : Nat}
  (hg : Tryz.prog.globalNamed name = some g) (hty : (Tryz.prog.globals[g]?).map (·.type) = some t) (ht : Tryz.prog.underlying t = some (.array n e)) (he : Tryz.prog.underlying e = some (.int k)) (hce : Tryz.prog.cellsOf e = 1) (hct : Tryz.prog.cellsOf t = n)
  (h : Lib.VarReads Tryz.prog W name (Lib.tabData k zs)) : ∃ ty fr, W.heap[g]? = some (.cells (zs.map fun z => Value.int k z).toArray ty fr) := by
 obtain ⟨g', t', cs, fuel, p, hg', ht', hvar, hd⟩ := h
 obtain rfl := Option.some.inj (hg.symm.trans hg')
 obtain rfl := Option.some.inj (hty.symm.trans ht')
 have hcs := Lib.cells_of_tab ht he hce hct hd
 unfold World.var? at hvar
 rw [hg] at hvar
 simp only [Option.bind_some] at hvar
 split at hvar
 ·rename_i c ty fr hh
  cases hvar
  refine ⟨ty, fr, ?_⟩
  rw [hh, ← hcs]
 ·cases hvar
theorem glob {Q : World → Prop} (hQ : ∀ W, Q W → Lib.VarReads Tryz.prog W "internal/strconv.uint64pow10" (Lib.tabData .u64 Lib.pow10Tab) ∧ Lib.VarReads Tryz.prog W "strings.asciiSpace" (Lib.tabData .u8 Lib.asciiSpaceTab)) :
  ∀ W : World, W.ShapedOpen Tryz.prog → Q W → GOk (fun x => W.cell? x) ∧ Tabs W := fun W h hq => by
 obtain ⟨h1, h2⟩ := hQ W hq
 refine ⟨fun i hi => ?_, fun t ht => ?_⟩
 ·obtain rfl : i = 0 := by simpa [gl] using hi
  exact cell_of_shapedOpen_int h (t := 3) (zero := #[.int .i64 0]) (k := .i64) (of_decide_eq_true (by kernel_rfl)) (by kernel_rfl) rfl (by kernel_rfl) (by kernel_rfl) Tryz.underlying3
 simp only [tb, tb1, tb2, List.cons_append, List.nil_append, List.mem_cons, List.not_mem_nil, or_false] at ht
 rcases ht with rfl | rfl
 ·exact tab_reads (t := 301) (e := 197) (by kernel_rfl) (by kernel_rfl) (n := 20) (by kernel_rfl) (by kernel_rfl) (by kernel_rfl) (by kernel_rfl) h1
 ·exact tab_reads (t := 304) (e := 5) (by kernel_rfl) (by kernel_rfl) (n := 256) (by kernel_rfl) (by kernel_rfl) (by kernel_rfl) (by kernel_rfl) h2
end Go.Proofs.YtipodehgjknelaaGreatDoor
