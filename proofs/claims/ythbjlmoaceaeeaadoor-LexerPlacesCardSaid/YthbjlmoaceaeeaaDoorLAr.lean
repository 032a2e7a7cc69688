/- For every input the law LexerPlaces returns true. Part 18 of 18. No condition. -/
import Derived.Test.YthbjlmoaceaeeaaDoorLAq
import Derived.Test.YthbjlmoaceaeeaaDoorTie
import Derived.Test.YthbjlmoaceaeeaaDoorCards
import Derived.Lay
import Derived.LaidMore
import Derived.SevenTiedAt
import Derived.Stop.Joined
set_option linter.unusedVariables false
set_option linter.unusedSimpArgs false
set_option maxRecDepth 100000
namespace Go.Proofs.YthbjlmoaceaeeaaDoor
open Go Go.Abs
theorem lexerPlaces_pure (avs : List AV) (h : All2 (fun A a => A a) [fun a => ∃ x : List UInt8, x.length ≤ 140737488351232 ∧ a = .str x] avs) : Pure Tryd.prog 3 avs (.bool true) := by
    obtain ⟨_, rfl, ⟨x0, h0, rfl⟩⟩ := all2_1 h
    obtain ⟨fuel, hf⟩ := LexerPlaces_true x0 h0
    have := law02_LexerPlaces_ok fuel x0 true hf
    simpa using this
theorem lexerPlaces_lifted (os : Os) (started : os.Started) (H : Type) (enc : TypeId × Value → H) :
    ReturnsInHanded {} Tryd.checked os 3 .any (fun w args => (Rows.lexerPlacesSpec.pre enc Tryd.prog Tryd.f3 Rows.lexerPlacesRow.domain false w args ∧ laidMetH Tryd.prog Rows.lexerPlacesRow.laid w) ∧ sizedMet enc Tryd.prog Tryd.f3 (OpenSpec.ofChange Rows.lexerPlacesSpec) false w args) (Rows.lexerPlacesSpec.post enc Tryd.prog Tryd.f3 false true false false) := by
  refine law_lifted_pre (C := Tryd.checked) (f := Tryd.f3) (s := Rows.lexerPlacesSpec) (conds := Rows.lexerPlacesRow.domain) own laid Tryd.func3 (by kernel_rfl) rfl Tryd.underlying4 rfl
    (fun H ds hd => by match ds, hd with | [_], _ => rfl)
    [fun a => ∃ x : List UInt8, x.length ≤ 140737488351232 ∧ a = .str x] ?_ ?_ glob lexerPlaces_pure started (fun _ _ h => ⟨h.1.1, h.2⟩)
    (ChangeSpec.witness_shaped (enc := enc) (C := Tryd.checked) (os := os) (X := fun w _ => laidMetH Tryd.prog Rows.lexerPlacesRow.laid w) false (World.laidAll Tryd.prog os Rows.lexerPlacesRow.laid) #[.string ⟨#[]⟩] 8 (World.laidAll_os _ _ _)
      (World.shaped_of_ZipB (by kernel_rfl) (by kernel_rfl)) (by kernel_rfl) (by kernel_rfl) (by kernel_rfl)
      (by rw [MakeChecks.laidMetH_plain _ _ _ (by kernel_rfl)]; exact laidMet_laidAll _ (by kernel_rfl) (by kernel_rfl)))
  · exact ⟨opens_str Tryd.underlying9, trivial⟩
  · intro t ht
    have h : t ∈ [9] := ht
    simp only [List.mem_cons, List.not_mem_nil, or_false] at h
    rcases h with rfl <;> exact ⟨by kernel_rfl, of_decide_eq_true (by kernel_rfl)⟩
theorem lexerPlaces_row : Rows.LexerPlacesSaid :=
  OpenClaim.holds_of_wide 3 Tryd.f3 rfl rfl rfl rfl rfl rfl rfl ⟨rfl, rfl, rfl, rfl, rfl⟩ rfl rfl rfl rfl rfl (by kernel_rfl) Tryd.func3 (by kernel_rfl)
    (of_decide_eq_true (by kernel_rfl)) (by unfold Func.isWrapper; first | (rw [if_pos (by decide +kernel)]; kernel_rfl) | (rw [if_neg (by decide +kernel)]; exact ⟨rfl, rfl⟩))
    (fun os started H enc _ => lexerPlaces_lifted os started H enc)
theorem lexerPlaces_said : Rows.LexerPlacesCardSaid :=
  Claim7.holds_tied_plain_at .later [] [.data, .pinned] true (true, "047623c94fce50b1bddeb3fe5fee433846c8aa56b8e193b91b0191cebfc7b97e") false
    lexerPlaces_row (fun _ h => by cases h) (by kernel_rfl) (fun _ h => by cases h) lexerPlaces_row_tie rfl ⟨rfl, rfl⟩ (by kernel_rfl) rfl
    (fun f fn hf hfn => by
      obtain rfl : f = 3 := Option.some.inj ((show Tryd.prog.funcNamed "pilaster/pilasterlaw02.LexerPlaces" = some 3 by kernel_rfl).symm.trans hf) |>.symm
      obtain rfl : fn = Tryd.f3 := (Option.some.inj (Tryd.func3.symm.trans hfn)).symm
      exact ⟨by kernel_rfl, fun j t ht => by
        have ht' : (#[9] : Array TypeId)[j]? = some t := ht
        have hm : t ∈ [9] := by simpa using Array.mem_of_getElem? ht'
        have hall : ([9].all fun u => !Tryd.prog.wantsStandIn u) = true := by kernel_rfl
        exact (show Tryd.prog.wantsStandIn t = false by simpa using List.all_eq_true.1 hall t hm)⟩)
    (by kernel_rfl)
end Go.Proofs.YthbjlmoaceaeeaaDoor
