/- For every input the law PrinterTexts returns true. Part 16 of 16. No condition. -/
import Derived.Test.YtlhikhaailhoaaaGreatDoorPTo
import Derived.Test.YtlhikhaailhoaaaGreatDoorTie
import Derived.Test.YtlhikhaailhoaaaGreatDoorCards
import Derived.Lay
import Derived.LaidMore
import Derived.SevenTiedAt
set_option linter.unusedVariables false
set_option linter.unnecessarySimpa false
set_option linter.unusedSimpArgs false
set_option maxRecDepth 100000
set_option maxHeartbeats 1000000
namespace Go.Proofs.YtlhikhaailhoaaaGreatDoor
open Go Go.Abs
theorem printerTexts_pure (avs : List AV) (h : All2 (fun A a => A a) [fun a => ∃ x, Rng .i64 x ∧ a = .int .i64 x, fun a => ∃ x : zIi, (fun _ => True) x ∧ a = .agg x.c] avs) : Pure Tryz.prog 3 avs (.bool true) := by
  obtain ⟨_, _, rfl, ⟨x0, h0, rfl⟩, ⟨x1, h1, rfl⟩⟩ := all2_2 h
  obtain ⟨fuel, hf⟩ := zG9 x0 x1 h0
  have := zFq fuel x0 x1 true hf
  simpa using this
theorem printerTexts_lifted (os : Os) (started : os.Started) (H : Type) (enc : TypeId × Value → H) :
  ReturnsInHanded {} Tryz.checked os 3 .any (fun w args => (Rows.printerTextsSpec.pre enc Tryz.prog Tryz.f3 Rows.printerTextsRow.domain false w args ∧ laidMetH Tryz.prog Rows.printerTextsRow.laid w) ∧ sizedMet enc Tryz.prog Tryz.f3 (OpenSpec.ofChange Rows.printerTextsSpec) false w args) (Rows.printerTextsSpec.post enc Tryz.prog Tryz.f3 false true false false) := by
 refine zIQ (C := Tryz.checked) (f := Tryz.f3) (s := Rows.printerTextsSpec) (conds := Rows.printerTextsRow.domain) own laid Tryz.func3 (by kernel_rfl) rfl Tryz.underlying4 rfl
  (fun H ds hd => by match ds, hd with | [_, _], _ => rfl)
  [fun a => ∃ x, Rng .i64 x ∧ a = .int .i64 x, fun a => ∃ x : zIi, (fun _ => True) x ∧ a = .agg x.c] ?_ ?_ (glob (Q := fun w => laidMetH Tryz.prog Rows.printerTextsRow.laid w) fun W h => by
   rw [MakeChecks.laidMetH_plain _ _ _ (by kernel_rfl)] at h
   exact ⟨Lib.laidMet.reads h (List.mem_of_getElem? (show Rows.printerTextsRow.laid[2]? = some _ by kernel_rfl)), Lib.laidMet.reads h (List.mem_of_getElem? (show Rows.printerTextsRow.laid[4]? = some _ by kernel_rfl))⟩) printerTexts_pure started (fun _ _ h => ⟨h.1.1, h.2⟩) (fun _ _ _ hh h => h.1.2.of_heap hh)
  (ChangeSpec.witness_shaped (enc := enc) (C := Tryz.checked) (os := os) (X := fun w _ => laidMetH Tryz.prog Rows.printerTextsRow.laid w) false (World.laidAll Tryz.prog os Rows.printerTextsRow.laid) #[.int .i64 0, .agg #[.int .i64 0, .int .i64 0, .string ⟨#[]⟩, .slice none 0 0, .slice none 0 0]] 8 (World.laidAll_os _ _ _)
   (World.shaped_of_ZipB (by kernel_rfl) (by kernel_rfl)) (by kernel_rfl) (by kernel_rfl) (by kernel_rfl)
   (by rw [MakeChecks.laidMetH_plain _ _ _ (by kernel_rfl)]; exact laidMet_laidAll _ (by kernel_rfl) (by kernel_rfl)))
 ·exact ⟨opens_int Tryz.underlying3, opens_struct Tryz.underlying25 op25, trivial⟩
 ·intro t ht
  have h : t ∈ [3, 25] := ht
  simp only [List.mem_cons, List.not_mem_nil, or_false] at h
  rcases h with rfl | rfl <;> exact ⟨by kernel_rfl, of_decide_eq_true (by kernel_rfl)⟩
theorem printerTexts_row : Rows.PrinterTextsSaid :=
 OpenClaim.holds_of_wide 3 Tryz.f3 rfl rfl rfl rfl rfl rfl rfl ⟨rfl, rfl, rfl, rfl, rfl⟩ rfl rfl rfl rfl rfl (by kernel_rfl) Tryz.func3 (by kernel_rfl)
  (of_decide_eq_true (by kernel_rfl)) (by unfold Func.isWrapper; first | (rw [if_pos (by decide +kernel)]; kernel_rfl) | (rw [if_neg (by decide +kernel)]; exact ⟨rfl, rfl⟩))
  (fun os started H enc _ => printerTexts_lifted os started H enc)
theorem printerTexts_said : Rows.PrinterTextsCardSaid :=
 Claim7.holds_tied_plain_at .later [] [.data, .data, .data, .listed, .data] true (true, "a7352b315d3ebca6435f69a31ebddaafc30943c6c2d28f64bb5084bdf9a6a93c") false
  printerTexts_row (fun _ h => by cases h) (by kernel_rfl) (fun _ h => by cases h) printerTexts_row_tie rfl ⟨rfl, rfl⟩ (by kernel_rfl) rfl
  (fun f fn hf hfn => by
   obtain rfl : f = 3 := Option.some.inj ((show Tryz.prog.funcNamed "pilaster/pilasterlaw06.PrinterTexts" = some 3 by kernel_rfl).symm.trans hf) |>.symm
   obtain rfl : fn = Tryz.f3 := (Option.some.inj (Tryz.func3.symm.trans hfn)).symm
   exact ⟨by kernel_rfl, fun j t ht => by
    have ht' : (#[3, 25] : Array TypeId)[j]? = some t := ht
    have hm : t ∈ [3, 25] := by simpa using Array.mem_of_getElem? ht'
    have hall : ([3, 25].all fun u => !Tryz.prog.wantsStandIn u) = true := by kernel_rfl
    exact (show Tryz.prog.wantsStandIn t = false by simpa using List.all_eq_true.1 hall t hm)⟩)
  (by kernel_rfl)
end Go.Proofs.YtlhikhaailhoaaaGreatDoor
