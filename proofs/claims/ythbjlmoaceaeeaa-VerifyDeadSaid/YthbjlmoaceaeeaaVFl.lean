/- For every input the law VerifyDead returns true. Part 12 of 13. No condition. -/
import Derived.Test.YthbjlmoaceaeeaaVFk
import Derived.Test.YthbjlmoaceaeeaaRows
import Derived.Shelf.Vars
set_option linter.unusedVariables false
set_option linter.unusedSimpArgs false
set_option maxRecDepth 100000
namespace Go.Proofs.Ythbjlmoaceaeeaa
open Go Go.Abs
theorem op46 (n : Nat) : OpensAt Try.prog n 46 Api.Instr.c (fun _ => True) :=
  opensAt_struct Try.underlying46 (N := 3) (by kernel_rfl) (fun p => ⟨p.1, p.2.1, p.2.2.1⟩) (fun p => by simp) (fun _ _ => trivial) (fun k hk =>
    fieldsAt_cons rfl (k := 1) (by kernel_rfl) (opensAt_int Try.underlying3 k) (fieldsAt_cons rfl (k := 1) (by kernel_rfl) (opensAt_int Try.underlying3 k) (fieldsAt_cons rfl (k := 1) (by kernel_rfl) (opensAt_int Try.underlying3 k) (fieldsAt_nil (by decide)))))
theorem op44 (n : Nat) : OpensAt Try.prog n 44 Api.Fun.c (fun _ => True) :=
  opensAt_struct Try.underlying44 (N := 4) (by kernel_rfl) (fun p => ⟨p.1, p.2.1, p.2.2.1, p.2.2.2.1⟩) (fun p => by simp) (fun _ _ => trivial) (fun k hk =>
    fieldsAt_cons rfl (k := 1) (by kernel_rfl) (opensAt_int Try.underlying3 k) (fieldsAt_cons rfl (k := 1) (by kernel_rfl) (opensAt_int Try.underlying3 k) (fieldsAt_cons rfl (k := 1) (by kernel_rfl) (opensAt_int Try.underlying3 k)
      (fieldsAt_cons rfl (k := 1) (by kernel_rfl) (opensAt_slice Try.underlying42 (m := 3) (b := 24) (by kernel_rfl) (by kernel_rfl) (by decide) (fun a => by simp) (fun j hj => op46 j)) (fieldsAt_nil (by decide))))))
theorem op25 (n : Nat) : OpensAt Try.prog n 25 Api.Program.c (fun _ => True) :=
  opensAt_struct Try.underlying25 (N := 3) (by kernel_rfl) (fun p => ⟨p.1, p.2.1, p.2.2.1⟩) (fun p => by simp) (fun _ _ => trivial) (fun k hk =>
    fieldsAt_cons rfl (k := 1) (by kernel_rfl) (opensAt_slice Try.underlying22 (m := 4) (b := 48) (by kernel_rfl) (by kernel_rfl) (by decide) (fun a => by simp) (fun j hj => op44 j))
      (fieldsAt_cons rfl (k := 1) (by kernel_rfl) (opensAt_slice Try.underlying23 (m := 1) (b := 16) (by kernel_rfl) (by kernel_rfl) (by decide) (fun a => by simp) (fun j hj => opensAt_str Try.underlying9 j))
        (fieldsAt_cons rfl (k := 1) (by kernel_rfl) (opensAt_int Try.underlying3 k) (fieldsAt_nil (by decide)))))
theorem own : ownKnob Try.prog.godebug = none := by kernel_rfl
theorem laid : laidOutB Try.prog = true := by kernel_rfl
theorem glob : ∀ W : World, W.ShapedOpen Try.prog → True → GOk (fun x => W.cell? x) ∧ Tabs W := fun W h _ => ⟨fun i hi => by
  obtain rfl : i = 0 := by simpa [gl] using hi
  exact cell_of_shapedOpen_int h (t := 3) (zero := #[.int .i64 0]) (k := .i64) (of_decide_eq_true (by kernel_rfl)) (by kernel_rfl) rfl (by kernel_rfl) (by kernel_rfl) Try.underlying3, fun t ht => by simp [tb, tb1, tb2] at ht⟩
end Go.Proofs.Ythbjlmoaceaeeaa
