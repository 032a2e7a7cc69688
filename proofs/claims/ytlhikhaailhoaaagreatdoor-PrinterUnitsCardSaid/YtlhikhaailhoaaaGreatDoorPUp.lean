/- For every input the law PrinterUnits returns true. Part 16 of 16. No condition. -/
import Derived.Test.YtlhikhaailhoaaaGreatDoorPUo
import Derived.Test.YtlhikhaailhoaaaGreatDoorTie
import Derived.Test.YtlhikhaailhoaaaGreatDoorCards
import Derived.Lay
import Derived.LaidMore
import Derived.SevenTiedAt
set_option linter.unusedVariables false
set_option linter.unnecessarySimpa false
set_option linter.unusedSimpArgs false
set_option maxRecDepth 100000
set_option maxHeartbeats 1000000
namespace Go.Proofs.YtlhikhaailhoaaaGreatDoor
open Go Go.Abs
theorem printerUnits_pure (avs : List AV) (h : All2 (fun A a => A a) [fun a => ∃ x : zJB, (fun _ => True) x ∧ a = .agg x.c] avs) : Pure Tryz.prog 4 avs (.bool true) := by
  obtain ⟨_, rfl, ⟨x0, h0, rfl⟩⟩ := all2_1 h
  obtain ⟨fuel, hf⟩ := zHd x0
  have := zGG fuel x0 true hf
  simpa using this
theorem printerUnits_lifted (os : Os) (started : os.Started) (H : Type) (enc : TypeId × Value → H) :
  ReturnsInHanded {} Tryz.checked os 4 .any (fun w args => (Rows.printerUnitsSpec.pre enc Tryz.prog Tryz.f4 Rows.printerUnitsRow.domain false w args ∧ laidMetH Tryz.prog Rows.printerUnitsRow.laid w) ∧ sizedMet enc Tryz.prog Tryz.f4 (OpenSpec.ofChange Rows.printerUnitsSpec) false w args) (Rows.printerUnitsSpec.post enc Tryz.prog Tryz.f4 false true false false) := by
 refine zIw (C := Tryz.checked) (f := Tryz.f4) (s := Rows.printerUnitsSpec) (conds := Rows.printerUnitsRow.domain) own laid Tryz.func4 (by kernel_rfl) rfl Tryz.underlying4 rfl
  (fun H ds hd => by match ds, hd with | [_], _ => rfl)
  [fun a => ∃ x : zJB, (fun _ => True) x ∧ a = .agg x.c] ?_ ?_ (glob (Q := fun w => laidMetH Tryz.prog Rows.printerUnitsRow.laid w) fun W h => by
   rw [MakeChecks.laidMetH_plain _ _ _ (by kernel_rfl)] at h
   exact ⟨Lib.laidMet.reads h (List.mem_of_getElem? (show Rows.printerUnitsRow.laid[2]? = some _ by kernel_rfl)), Lib.laidMet.reads h (List.mem_of_getElem? (show Rows.printerUnitsRow.laid[4]? = some _ by kernel_rfl))⟩) printerUnits_pure started (fun _ _ h => ⟨h.1.1, h.2⟩) (fun _ _ _ hh h => h.1.2.of_heap hh)
  (ChangeSpec.witness_shaped (enc := enc) (C := Tryz.checked) (os := os) (X := fun w _ => laidMetH Tryz.prog Rows.printerUnitsRow.laid w) false (World.laidAll Tryz.prog os Rows.printerUnitsRow.laid) #[.agg #[.string ⟨#[]⟩, .slice none 0 0, .slice none 0 0]] 8 (World.laidAll_os _ _ _)
   (World.shaped_of_ZipB (by kernel_rfl) (by kernel_rfl)) (by kernel_rfl) (by kernel_rfl) (by kernel_rfl)
   (by rw [MakeChecks.laidMetH_plain _ _ _ (by kernel_rfl)]; exact laidMet_laidAll _ (by kernel_rfl) (by kernel_rfl)))
 ·exact ⟨opens_struct Tryz.underlying36 op36, trivial⟩
 ·intro t ht
  have h : t ∈ [36] := ht
  simp only [List.mem_cons, List.not_mem_nil, or_false] at h
  rcases h with rfl <;> exact ⟨by kernel_rfl, of_decide_eq_true (by kernel_rfl)⟩
theorem printerUnits_row : Rows.PrinterUnitsSaid :=
 OpenClaim.holds_of_wide 4 Tryz.f4 rfl rfl rfl rfl rfl rfl rfl ⟨rfl, rfl, rfl, rfl, rfl⟩ rfl rfl rfl rfl rfl (by kernel_rfl) Tryz.func4 (by kernel_rfl)
  (of_decide_eq_true (by kernel_rfl)) (by unfold Func.isWrapper; first | (rw [if_pos (by decide +kernel)]; kernel_rfl) | (rw [if_neg (by decide +kernel)]; exact ⟨rfl, rfl⟩))
  (fun os started H enc _ => printerUnits_lifted os started H enc)
theorem printerUnits_said : Rows.PrinterUnitsCardSaid :=
 Claim7.holds_tied_plain_at .later [] [.data, .data, .data, .listed, .data] true (true, "a7352b315d3ebca6435f69a31ebddaafc30943c6c2d28f64bb5084bdf9a6a93c") false
  printerUnits_row (fun _ h => by cases h) (by kernel_rfl) (fun _ h => by cases h) printerUnits_row_tie rfl ⟨rfl, rfl⟩ (by kernel_rfl) rfl
  (fun f fn hf hfn => by
   obtain rfl : f = 4 := Option.some.inj ((show Tryz.prog.funcNamed "pilaster/pilasterlaw06.PrinterUnits" = some 4 by kernel_rfl).symm.trans hf) |>.symm
   obtain rfl : fn = Tryz.f4 := (Option.some.inj (Tryz.func4.symm.trans hfn)).symm
   exact ⟨by kernel_rfl, fun j t ht => by
    have ht' : (#[36] : Array TypeId)[j]? = some t := ht
    have hm : t ∈ [36] := by simpa using Array.mem_of_getElem? ht'
    have hall : ([36].all fun u => !Tryz.prog.wantsStandIn u) = true := by kernel_rfl
    exact (show Tryz.prog.wantsStandIn t = false by simpa using List.all_eq_true.1 hall t hm)⟩)
  (by kernel_rfl)
end Go.Proofs.YtlhikhaailhoaaaGreatDoor
