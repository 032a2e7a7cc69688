/- For every input the law LexerBack returns true. Part 15 of 16. No condition. -/
import Derived.Test.YthbjlmoaceaeeaaLEn
import Derived.Test.YthbjlmoaceaeeaaRows
import Derived.Shelf.Vars
set_option linter.unusedVariables false
set_option linter.unusedSimpArgs false
set_option maxRecDepth 100000
namespace Go.Proofs.Ythbjlmoaceaeeaa
open Go Go.Abs
theorem op60 (n : Nat) : OpensAt Try.prog n 60 Api.Pos.c (fun _ => True) :=
  opensAt_struct Try.underlying60 (N := 2) (by kernel_rfl) (fun p => ⟨p.1, p.2.1⟩) (fun p => by simp) (fun _ _ => trivial) (fun k hk =>
    fieldsAt_cons rfl (k := 1) (by kernel_rfl) (opensAt_int Try.underlying3 k) (fieldsAt_cons rfl (k := 1) (by kernel_rfl) (opensAt_int Try.underlying3 k) (fieldsAt_nil (by decide))))
theorem op75 (n : Nat) : OpensAt Try.prog n 75 Api.Token.c (fun _ => True) :=
  opensAt_struct Try.underlying75 (N := 4) (by kernel_rfl) (fun p => ⟨p.1, p.2.1, p.2.2.1⟩) (fun p => by simp) (fun _ _ => trivial) (fun k hk =>
    fieldsAt_cons rfl (k := 1) (by kernel_rfl) (opensAt_int Try.underlying3 k) (fieldsAt_cons rfl (k := 1) (by kernel_rfl) (opensAt_str Try.underlying9 k)
      (fieldsAt_cons rfl (k := 2) (by kernel_rfl) (op60 k) (fieldsAt_nil (by decide)))))
theorem own : ownKnob Try.prog.godebug = none := by kernel_rfl
theorem laid : laidOutB Try.prog = true := by kernel_rfl
theorem glob : ∀ W : World, W.ShapedOpen Try.prog → GOk (fun x => W.cell? x) := fun W h i hi => by
  obtain rfl : i = 0 := by simpa [gl] using hi
  exact cell_of_shapedOpen_int h (t := 3) (zero := #[.int .i64 0]) (k := .i64) (of_decide_eq_true (by kernel_rfl)) (by kernel_rfl) rfl (by kernel_rfl) (by kernel_rfl) Try.underlying3
end Go.Proofs.Ythbjlmoaceaeeaa
