/- The row PatternCovers holds: what covers a pattern matches what this matches, and covering is as specified. Part 18 of 18. No condition. -/
import Derived.Test.YtlekkicnlddhlaaGreatDoorPCq
set_option linter.unusedVariables false
set_option linter.unnecessarySimpa false
set_option linter.unusedSimpArgs false
set_option maxRecDepth 100000
set_option maxHeartbeats 1000000
namespace Go.Proofs.YtlekkicnlddhlaaGreatDoor
open Go Go.Abs
theorem patternCovers_row : Rows.PatternCoversSaid :=
 OpenClaim.holds_of_wide 3 Tryz.f3 rfl rfl rfl rfl rfl rfl rfl ⟨rfl, rfl, rfl, rfl, rfl⟩ rfl rfl rfl rfl rfl (by kernel_rfl) Tryz.func3 patternCovers_closed
  (of_decide_eq_true (by kernel_rfl)) (by unfold Func.isWrapper; first | (rw [if_pos (by decide +kernel)]; kernel_rfl) | (rw [if_neg (by decide +kernel)]; exact ⟨rfl, rfl⟩))
  (fun os started H enc _ => patternCovers_lifted os started H enc)
theorem patternCovers_said : Rows.PatternCoversCardSaid :=
 Claim7.holds_tied_plain_at .later [] [.data, .data, .data, .sentinel, .sentinel, .listed, .data] true (true, "affc361a22e59a6840488ffe699382c695285309b234db8674153372a661832f") true
  patternCovers_row (fun _ h => by cases h) cf1 (fun _ h => by cases h) patternCovers_row_tie rfl ⟨rfl, rfl⟩ cf2 rfl
  (fun f fn hf hfn => by
   obtain rfl : f = 3 := Option.some.inj (cf3.symm.trans hf) |>.symm
   obtain rfl : fn = Tryz.f3 := (Option.some.inj (Tryz.func3.symm.trans hfn)).symm
   exact ⟨cf4, fun j t ht => by
    have ht' : (#[24, 24, 24, 28] : Array TypeId)[j]? = some t := ht
    have hm : t ∈ [24, 24, 24, 28] := by simpa using Array.mem_of_getElem? ht'
    exact (show Tryz.prog.wantsStandIn t = false by simpa using List.all_eq_true.1 cf5 t hm)⟩)
  cf6
end Go.Proofs.YtlekkicnlddhlaaGreatDoor
