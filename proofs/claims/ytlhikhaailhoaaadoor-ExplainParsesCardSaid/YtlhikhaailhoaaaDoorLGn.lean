/- For every input the law ExplainParses returns true. Part 14 of 14. No condition. -/
import Derived.Test.YtlhikhaailhoaaaDoorLGm
import Derived.Test.YtlhikhaailhoaaaDoorTie
import Derived.Test.YtlhikhaailhoaaaDoorCards
import Derived.Lay
import Derived.LaidMore
import Derived.SevenTiedAt
import Derived.Stop.Joined
set_option linter.unusedVariables false
set_option linter.unusedSimpArgs false
set_option maxRecDepth 100000
namespace Go.Proofs.YtlhikhaailhoaaaDoor
open Go Go.Abs
theorem explainParses_pure (avs : List AV) (h : All2 (fun A a => A a) [fun a => ∃ x : List UInt8, x.length ≤ 140737488351232 ∧ a = .str x, fun a => ∃ x, Rng .i64 x ∧ a = .int .i64 x] avs) : Pure Tryd.prog 3 avs (.bool true) := by
    obtain ⟨_, _, rfl, ⟨x0, h0, rfl⟩, ⟨x1, h1, rfl⟩⟩ := all2_2 h
    obtain ⟨fuel, hf⟩ := ExplainParses_true x0 x1 h0 h1
    have := law55_ExplainParses_ok fuel x0 x1 true hf
    simpa using this
theorem explainParses_lifted (os : Os) (started : os.Started) (H : Type) (enc : TypeId × Value → H) :
    ReturnsInHanded {} Tryd.checked os 3 .any (fun w args => (Rows.explainParsesSpec.pre enc Tryd.prog Tryd.f3 Rows.explainParsesRow.domain false w args ∧ laidMetH Tryd.prog Rows.explainParsesRow.laid w) ∧ sizedMet enc Tryd.prog Tryd.f3 (OpenSpec.ofChange Rows.explainParsesSpec) false w args) (Rows.explainParsesSpec.post enc Tryd.prog Tryd.f3 false true false false) := by
  refine law_lifted_pre (C := Tryd.checked) (f := Tryd.f3) (s := Rows.explainParsesSpec) (conds := Rows.explainParsesRow.domain) own laid Tryd.func3 (by kernel_rfl) rfl Tryd.underlying4 rfl
    (fun H ds hd => by match ds, hd with | [_, _], _ => rfl)
    [fun a => ∃ x : List UInt8, x.length ≤ 140737488351232 ∧ a = .str x, fun a => ∃ x, Rng .i64 x ∧ a = .int .i64 x] ?_ ?_ glob explainParses_pure started (fun _ _ h => ⟨h.1.1, h.2⟩)
    (ChangeSpec.witness_shaped (enc := enc) (C := Tryd.checked) (os := os) (X := fun w _ => laidMetH Tryd.prog Rows.explainParsesRow.laid w) false (World.laidAll Tryd.prog os Rows.explainParsesRow.laid) #[.string ⟨#[]⟩, .int .i64 0] 8 (World.laidAll_os _ _ _)
      (World.shaped_of_ZipB (by kernel_rfl) (by kernel_rfl)) (by kernel_rfl) (by kernel_rfl) (by kernel_rfl)
      (by rw [MakeChecks.laidMetH_plain _ _ _ (by kernel_rfl)]; exact laidMet_laidAll _ (by kernel_rfl) (by kernel_rfl)))
  · exact ⟨opens_str Tryd.underlying9, opens_int Tryd.underlying3, trivial⟩
  · intro t ht
    have h : t ∈ [9, 3] := ht
    simp only [List.mem_cons, List.not_mem_nil, or_false] at h
    rcases h with rfl | rfl <;> exact ⟨by kernel_rfl, of_decide_eq_true (by kernel_rfl)⟩
theorem explainParses_row : Rows.ExplainParsesSaid :=
  OpenClaim.holds_of_wide 3 Tryd.f3 rfl rfl rfl rfl rfl rfl rfl ⟨rfl, rfl, rfl, rfl, rfl⟩ rfl rfl rfl rfl rfl (by kernel_rfl) Tryd.func3 (by kernel_rfl)
    (of_decide_eq_true (by kernel_rfl)) (by unfold Func.isWrapper; first | (rw [if_pos (by decide +kernel)]; kernel_rfl) | (rw [if_neg (by decide +kernel)]; exact ⟨rfl, rfl⟩))
    (fun os started H enc _ => explainParses_lifted os started H enc)
theorem explainParses_said : Rows.ExplainParsesCardSaid :=
  Claim7.holds_tied_plain_at .later [] [.data, .pinned] true (true, "b485c705184a60cdb07d968f0bf1592958ed27264a33c3a613b1e8207281a220") false
    explainParses_row (fun _ h => by cases h) (by kernel_rfl) (fun _ h => by cases h) explainParses_row_tie rfl ⟨rfl, rfl⟩ (by kernel_rfl) rfl
    (fun f fn hf hfn => by
      obtain rfl : f = 3 := Option.some.inj ((show Tryd.prog.funcNamed "pilaster/pilasterlaw55.ExplainParses" = some 3 by kernel_rfl).symm.trans hf) |>.symm
      obtain rfl : fn = Tryd.f3 := (Option.some.inj (Tryd.func3.symm.trans hfn)).symm
      exact ⟨by kernel_rfl, fun j t ht => by
        have ht' : (#[9, 3] : Array TypeId)[j]? = some t := ht
        have hm : t ∈ [9, 3] := by simpa using Array.mem_of_getElem? ht'
        have hall : ([9, 3].all fun u => !Tryd.prog.wantsStandIn u) = true := by kernel_rfl
        exact (show Tryd.prog.wantsStandIn t = false by simpa using List.all_eq_true.1 hall t hm)⟩)
    (by kernel_rfl)
end Go.Proofs.YtlhikhaailhoaaaDoor
