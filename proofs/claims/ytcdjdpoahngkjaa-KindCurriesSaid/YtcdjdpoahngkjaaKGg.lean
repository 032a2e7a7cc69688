/- For every input the law KindCurries returns true. Part 7 of 8. No condition. -/
import Derived.Test.YtcdjdpoahngkjaaKGf
import Derived.Test.YtcdjdpoahngkjaaRows
set_option linter.unusedVariables false
set_option linter.unusedSimpArgs false
namespace Go.Proofs.Ytcdjdpoahngkjaa
open Go Go.Abs
theorem op24 (n : Nat) : OpensAt Try.prog n 24 Api.Kind.c (fun _ => True) := by
  induction n using Nat.strongRecOn with
  | _ n ih =>
    exact opensAt_struct Try.underlying24 (N := 1) (by kernel_rfl) (fun p => ⟨p.1⟩) (fun p => by simp) (fun _ _ => trivial) (fun k hk =>
      fieldsAt_cons rfl (k := 1) (by kernel_rfl) (opensAt_slice Try.underlying22 (m := 1) (b := 24) (by kernel_rfl) (by kernel_rfl) (by decide) (fun a => by simp) (fun j hj => ih j (by omega))) (fieldsAt_nil (by decide)))
theorem own : ownKnob Try.prog.godebug = none := by kernel_rfl
theorem laid : laidOutB Try.prog = true := by kernel_rfl
end Go.Proofs.Ytcdjdpoahngkjaa
