/- The row PatternCovers holds: what covers a pattern matches what this matches, and covering is as specified. Part 15 of 18. No condition. -/
import Derived.Test.YtlekkicnlddhlaaGreatDoorPCn
import Derived.Test.YtlekkicnlddhlaaGreatDoorTie
import Derived.Test.YtlekkicnlddhlaaGreatDoorCards
import Derived.Lay
import Derived.LaidMore
import Derived.SevenTiedAt
set_option linter.unusedVariables false
set_option linter.unnecessarySimpa false
set_option linter.unusedSimpArgs false
set_option maxRecDepth 100000
set_option maxHeartbeats 1000000
namespace Go.Proofs.YtlekkicnlddhlaaGreatDoor
open Go Go.Abs
theorem patternCovers_pure (avs : List AV) (h : All2 (fun A a => A a) [fun a => ∃ x : zHm, (fun _ => True) x ∧ a = .agg x.c, fun a => ∃ x : zHm, (fun _ => True) x ∧ a = .agg x.c, fun a => ∃ x : zHm, (fun _ => True) x ∧ a = .agg x.c, fun a => ∃ x : zHl, (fun _ => True) x ∧ a = .agg x.c] avs) : Pure Tryz.prog 3 avs (.bool true) := by
  obtain ⟨_, _, _, _, rfl, ⟨x0, h0, rfl⟩, ⟨x1, h1, rfl⟩, ⟨x2, h2, rfl⟩, ⟨x3, h3, rfl⟩⟩ := all2_4 h
  obtain ⟨fuel, hf⟩ := zFL x0 x1 x2 x3
  have := zD5 fuel x0 x1 x2 x3 true hf
  simpa using this
theorem patternCovers_lifted (os : Os) (started : os.Started) (H : Type) (enc : TypeId × Value → H) :
  ReturnsInHanded {} Tryz.checked os 3 .any (fun w args => (Rows.patternCoversSpec.pre enc Tryz.prog Tryz.f3 Rows.patternCoversRow.domain false w args ∧ laidMetH Tryz.prog Rows.patternCoversRow.laid w) ∧ sizedMet enc Tryz.prog Tryz.f3 (OpenSpec.ofChange Rows.patternCoversSpec) false w args) (Rows.patternCoversSpec.post enc Tryz.prog Tryz.f3 false true false false) := by
 refine zHU (C := Tryz.checked) (f := Tryz.f3) (s := Rows.patternCoversSpec) (conds := Rows.patternCoversRow.domain) own laid Tryz.func3 (by kernel_rfl) rfl Tryz.underlying4 rfl
  (fun H ds hd => by match ds, hd with | [_, _, _, _], _ => rfl)
  [fun a => ∃ x : zHm, (fun _ => True) x ∧ a = .agg x.c, fun a => ∃ x : zHm, (fun _ => True) x ∧ a = .agg x.c, fun a => ∃ x : zHm, (fun _ => True) x ∧ a = .agg x.c, fun a => ∃ x : zHl, (fun _ => True) x ∧ a = .agg x.c] ?_ ?_ (glob (Q := fun w => laidMetH Tryz.prog Rows.patternCoversRow.laid w) fun W h => by
   rw [MakeChecks.laidMetH_plain _ _ _ (by kernel_rfl)] at h
   exact ⟨Lib.laidMet.reads h (List.mem_of_getElem? (show Rows.patternCoversRow.laid[2]? = some _ by kernel_rfl)), Lib.laidMet.reads h (List.mem_of_getElem? (show Rows.patternCoversRow.laid[6]? = some _ by kernel_rfl))⟩) patternCovers_pure started (fun _ _ h => ⟨h.1.1, h.2⟩) (fun _ _ _ hh h => h.1.2.of_heap hh)
  (ChangeSpec.witness_shaped (enc := enc) (C := Tryz.checked) (os := os) (X := fun w _ => laidMetH Tryz.prog Rows.patternCoversRow.laid w) false (World.laidAll Tryz.prog os Rows.patternCoversRow.laid) #[.agg #[.int .i64 0, .int .i64 0, .string ⟨#[]⟩, .slice none 0 0], .agg #[.int .i64 0, .int .i64 0, .string ⟨#[]⟩, .slice none 0 0], .agg #[.int .i64 0, .int .i64 0, .string ⟨#[]⟩, .slice none 0 0], .agg #[.int .i64 0, .int .i64 0, .string ⟨#[]⟩, .slice none 0 0, .slice none 0 0]] 8 (World.laidAll_os _ _ _)
   (World.shaped_of_ZipB (by kernel_rfl) (by kernel_rfl)) (by kernel_rfl) (by kernel_rfl) (by kernel_rfl)
   (by rw [MakeChecks.laidMetH_plain _ _ _ (by kernel_rfl)]; exact laidMet_laidAll _ (by kernel_rfl) (by kernel_rfl)))
 ·exact ⟨zDf Tryz.underlying24 op24, zDf Tryz.underlying24 op24, zDf Tryz.underlying24 op24, zDf Tryz.underlying28 op28, trivial⟩
 ·intro t ht
  have h : t ∈ [24, 24, 24, 28] := ht
  simp only [List.mem_cons, List.not_mem_nil, or_false] at h
  rcases h with rfl | rfl | rfl | rfl <;> exact ⟨by kernel_rfl, of_decide_eq_true (by kernel_rfl)⟩
end Go.Proofs.YtlekkicnlddhlaaGreatDoor
