/- PatternForms: for every input the law returns true. Part 15 of 18. No condition. -/
import Derived.Test.YtipodehgjknelaaGreatDoorPFn
import Derived.Test.YtipodehgjknelaaGreatDoorTie
import Derived.Test.YtipodehgjknelaaGreatDoorCards
import Derived.Lay
import Derived.LaidMore
import Derived.SevenTiedAt
set_option linter.unusedVariables false
set_option linter.unnecessarySimpa false
set_option linter.unusedSimpArgs false
set_option maxRecDepth 100000
set_option maxHeartbeats 1000000
namespace Go.Proofs.YtipodehgjknelaaGreatDoor
open Go Go.Abs
theorem patternForms_pure (avs : List AV) (h : All2 (fun A a => A a) [fun a => ∃ x : zGr, (fun _ => True) x ∧ a = .agg x.c, fun a => ∃ x : zGr, (fun _ => True) x ∧ a = .agg x.c] avs) : Pure Tryz.prog 6 avs (.bool true) := by
  obtain ⟨_, _, rfl, ⟨x0, h0, rfl⟩, ⟨x1, h1, rfl⟩⟩ := all2_2 h
  obtain ⟨fuel, hf⟩ := zEu x0 x1
  have := zDt fuel x0 x1 true hf
  simpa using this
theorem patternForms_lifted (os : Os) (started : os.Started) (H : Type) (enc : TypeId × Value → H) :
  ReturnsInHanded {} Tryz.checked os 6 .any (fun w args => (Rows.patternFormsSpec.pre enc Tryz.prog Tryz.f6 Rows.patternFormsRow.domain false w args ∧ laidMetH Tryz.prog Rows.patternFormsRow.laid w) ∧ sizedMet enc Tryz.prog Tryz.f6 (OpenSpec.ofChange Rows.patternFormsSpec) false w args) (Rows.patternFormsSpec.post enc Tryz.prog Tryz.f6 false true false false) := by
 refine zGe (C := Tryz.checked) (f := Tryz.f6) (s := Rows.patternFormsSpec) (conds := Rows.patternFormsRow.domain) own laid Tryz.func6 (by kernel_rfl) rfl Tryz.underlying4 rfl
  (fun H ds hd => by match ds, hd with | [_, _], _ => rfl)
  [fun a => ∃ x : zGr, (fun _ => True) x ∧ a = .agg x.c, fun a => ∃ x : zGr, (fun _ => True) x ∧ a = .agg x.c] ?_ ?_ (glob (Q := fun w => laidMetH Tryz.prog Rows.patternFormsRow.laid w) fun W h => by
   rw [MakeChecks.laidMetH_plain _ _ _ (by kernel_rfl)] at h
   exact ⟨Lib.laidMet.reads h (List.mem_of_getElem? (show Rows.patternFormsRow.laid[2]? = some _ by kernel_rfl)), Lib.laidMet.reads h (List.mem_of_getElem? (show Rows.patternFormsRow.laid[6]? = some _ by kernel_rfl))⟩) patternForms_pure started (fun _ _ h => ⟨h.1.1, h.2⟩) (fun _ _ _ hh h => h.1.2.of_heap hh)
  (ChangeSpec.witness_shaped (enc := enc) (C := Tryz.checked) (os := os) (X := fun w _ => laidMetH Tryz.prog Rows.patternFormsRow.laid w) false (World.laidAll Tryz.prog os Rows.patternFormsRow.laid) #[.agg #[.int .i64 0, .int .i64 0, .string ⟨#[]⟩, .slice none 0 0], .agg #[.int .i64 0, .int .i64 0, .string ⟨#[]⟩, .slice none 0 0]] 8 (World.laidAll_os _ _ _)
   (World.shaped_of_ZipB (by kernel_rfl) (by kernel_rfl)) (by kernel_rfl) (by kernel_rfl) (by kernel_rfl)
   (by rw [MakeChecks.laidMetH_plain _ _ _ (by kernel_rfl)]; exact laidMet_laidAll _ (by kernel_rfl) (by kernel_rfl)))
 ·exact ⟨zFP Tryz.underlying42 op42, zFP Tryz.underlying42 op42, trivial⟩
 ·intro t ht
  have h : t ∈ [42, 42] := ht
  simp only [List.mem_cons, List.not_mem_nil, or_false] at h
  rcases h with rfl | rfl <;> exact ⟨by kernel_rfl, of_decide_eq_true (by kernel_rfl)⟩
end Go.Proofs.YtipodehgjknelaaGreatDoor
