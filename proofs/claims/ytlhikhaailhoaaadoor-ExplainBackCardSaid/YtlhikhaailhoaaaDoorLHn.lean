/- For every input the law ExplainBack returns true. Part 14 of 14. No condition. -/
import Derived.Test.YtlhikhaailhoaaaDoorLHm
import Derived.Test.YtlhikhaailhoaaaDoorTie
import Derived.Test.YtlhikhaailhoaaaDoorCards
import Derived.Lay
import Derived.LaidMore
import Derived.SevenTiedAt
import Derived.Stop.Joined
set_option linter.unusedVariables false
set_option linter.unusedSimpArgs false
set_option maxRecDepth 100000
namespace Go.Proofs.YtlhikhaailhoaaaDoor
open Go Go.Abs
theorem explainBack_pure (avs : List AV) (h : All2 (fun A a => A a) [fun a => ∃ x : Api.Step, (fun _ => True) x ∧ a = .agg x.c, fun a => ∃ x : Api.Step, (fun _ => True) x ∧ a = .agg x.c] avs) : Pure Tryd.prog 4 avs (.bool true) := by
    obtain ⟨_, _, rfl, ⟨x0, h0, rfl⟩, ⟨x1, h1, rfl⟩⟩ := all2_2 h
    obtain ⟨fuel, hf⟩ := ExplainBack_true x0 x1
    have := law55_ExplainBack_ok fuel x0 x1 true hf
    simpa using this
theorem explainBack_lifted (os : Os) (started : os.Started) (H : Type) (enc : TypeId × Value → H) :
    ReturnsInHanded {} Tryd.checked os 4 .any (fun w args => (Rows.explainBackSpec.pre enc Tryd.prog Tryd.f4 Rows.explainBackRow.domain false w args ∧ laidMetH Tryd.prog Rows.explainBackRow.laid w) ∧ sizedMet enc Tryd.prog Tryd.f4 (OpenSpec.ofChange Rows.explainBackSpec) false w args) (Rows.explainBackSpec.post enc Tryd.prog Tryd.f4 false true false false) := by
  refine law_lifted_pre (C := Tryd.checked) (f := Tryd.f4) (s := Rows.explainBackSpec) (conds := Rows.explainBackRow.domain) own laid Tryd.func4 (by kernel_rfl) rfl Tryd.underlying4 rfl
    (fun H ds hd => by match ds, hd with | [_, _], _ => rfl)
    [fun a => ∃ x : Api.Step, (fun _ => True) x ∧ a = .agg x.c, fun a => ∃ x : Api.Step, (fun _ => True) x ∧ a = .agg x.c] ?_ ?_ glob explainBack_pure started (fun _ _ h => ⟨h.1.1, h.2⟩)
    (ChangeSpec.witness_shaped (enc := enc) (C := Tryd.checked) (os := os) (X := fun w _ => laidMetH Tryd.prog Rows.explainBackRow.laid w) false (World.laidAll Tryd.prog os Rows.explainBackRow.laid) #[.agg #[.string ⟨#[]⟩, .int .i64 0, .string ⟨#[]⟩, .bool false, .int .i64 0, .bool false], .agg #[.string ⟨#[]⟩, .int .i64 0, .string ⟨#[]⟩, .bool false, .int .i64 0, .bool false]] 8 (World.laidAll_os _ _ _)
      (World.shaped_of_ZipB (by kernel_rfl) (by kernel_rfl)) (by kernel_rfl) (by kernel_rfl) (by kernel_rfl)
      (by rw [MakeChecks.laidMetH_plain _ _ _ (by kernel_rfl)]; exact laidMet_laidAll _ (by kernel_rfl) (by kernel_rfl)))
  · exact ⟨opens_struct Tryd.underlying27 op27, opens_struct Tryd.underlying27 op27, trivial⟩
  · intro t ht
    have h : t ∈ [27, 27] := ht
    simp only [List.mem_cons, List.not_mem_nil, or_false] at h
    rcases h with rfl | rfl <;> exact ⟨by kernel_rfl, of_decide_eq_true (by kernel_rfl)⟩
theorem explainBack_row : Rows.ExplainBackSaid :=
  OpenClaim.holds_of_wide 4 Tryd.f4 rfl rfl rfl rfl rfl rfl rfl ⟨rfl, rfl, rfl, rfl, rfl⟩ rfl rfl rfl rfl rfl (by kernel_rfl) Tryd.func4 (by kernel_rfl)
    (of_decide_eq_true (by kernel_rfl)) (by unfold Func.isWrapper; first | (rw [if_pos (by decide +kernel)]; kernel_rfl) | (rw [if_neg (by decide +kernel)]; exact ⟨rfl, rfl⟩))
    (fun os started H enc _ => explainBack_lifted os started H enc)
theorem explainBack_said : Rows.ExplainBackCardSaid :=
  Claim7.holds_tied_plain_at .later [] [.data, .pinned] true (true, "b485c705184a60cdb07d968f0bf1592958ed27264a33c3a613b1e8207281a220") false
    explainBack_row (fun _ h => by cases h) (by kernel_rfl) (fun _ h => by cases h) explainBack_row_tie rfl ⟨rfl, rfl⟩ (by kernel_rfl) rfl
    (fun f fn hf hfn => by
      obtain rfl : f = 4 := Option.some.inj ((show Tryd.prog.funcNamed "pilaster/pilasterlaw55.ExplainBack" = some 4 by kernel_rfl).symm.trans hf) |>.symm
      obtain rfl : fn = Tryd.f4 := (Option.some.inj (Tryd.func4.symm.trans hfn)).symm
      exact ⟨by kernel_rfl, fun j t ht => by
        have ht' : (#[27, 27] : Array TypeId)[j]? = some t := ht
        have hm : t ∈ [27, 27] := by simpa using Array.mem_of_getElem? ht'
        have hall : ([27, 27].all fun u => !Tryd.prog.wantsStandIn u) = true := by kernel_rfl
        exact (show Tryd.prog.wantsStandIn t = false by simpa using List.all_eq_true.1 hall t hm)⟩)
    (by kernel_rfl)
end Go.Proofs.YtlhikhaailhoaaaDoor
