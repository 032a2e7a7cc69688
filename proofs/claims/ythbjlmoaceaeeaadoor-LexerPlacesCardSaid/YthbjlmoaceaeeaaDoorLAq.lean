/- For every input the law LexerPlaces returns true. Part 17 of 18. No condition. -/
import Derived.Test.YthbjlmoaceaeeaaDoorLAp
import Derived.Test.YthbjlmoaceaeeaaDoorRows
import Derived.Shelf.Vars
set_option linter.unusedVariables false
set_option linter.unusedSimpArgs false
set_option maxRecDepth 100000
namespace Go.Proofs.YthbjlmoaceaeeaaDoor
open Go Go.Abs
theorem op25 (n : Nat) : OpensAt Tryd.prog n 25 Api.Pos.c (fun _ => True) :=
  opensAt_struct Tryd.underlying25 (N := 2) (by kernel_rfl) (fun p => ⟨p.1, p.2.1⟩) (fun p => by simp) (fun _ _ => trivial) (fun k hk =>
    fieldsAt_cons rfl (k := 1) (by kernel_rfl) (opensAt_int Tryd.underlying3 k) (fieldsAt_cons rfl (k := 1) (by kernel_rfl) (opensAt_int Tryd.underlying3 k) (fieldsAt_nil (by decide))))
theorem op34 (n : Nat) : OpensAt Tryd.prog n 34 Api.Token.c (fun _ => True) :=
  opensAt_struct Tryd.underlying34 (N := 4) (by kernel_rfl) (fun p => ⟨p.1, p.2.1, p.2.2.1⟩) (fun p => by simp) (fun _ _ => trivial) (fun k hk =>
    fieldsAt_cons rfl (k := 1) (by kernel_rfl) (opensAt_int Tryd.underlying3 k) (fieldsAt_cons rfl (k := 1) (by kernel_rfl) (opensAt_str Tryd.underlying9 k)
      (fieldsAt_cons rfl (k := 2) (by kernel_rfl) (op25 k) (fieldsAt_nil (by decide)))))
theorem own : ownKnob Tryd.prog.godebug = none := by kernel_rfl
theorem laid : laidOutB Tryd.prog = true := by kernel_rfl
theorem glob : ∀ W : World, W.ShapedOpen Tryd.prog → GOk (fun x => W.cell? x) := fun W h i hi => by
  obtain rfl : i = 0 := by simpa [gl] using hi
  exact cell_of_shapedOpen_int h (t := 3) (zero := #[.int .i64 0]) (k := .i64) (of_decide_eq_true (by kernel_rfl)) (by kernel_rfl) rfl (by kernel_rfl) (by kernel_rfl) Tryd.underlying3
end Go.Proofs.YthbjlmoaceaeeaaDoor
