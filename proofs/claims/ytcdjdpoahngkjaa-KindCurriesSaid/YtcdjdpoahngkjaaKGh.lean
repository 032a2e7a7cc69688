/- For every input the law KindCurries returns true. Part 8 of 8. No condition. -/
import Derived.Test.YtcdjdpoahngkjaaKGg
set_option linter.unusedVariables false
set_option linter.unusedSimpArgs false
set_option maxRecDepth 100000
namespace Go.Proofs.Ytcdjdpoahngkjaa
open Go Go.Abs
theorem kindCurries_pure (avs : List AV) (h : All2 (fun A a => A a) [fun a => ∃ x : Api.Kind, (fun _ => True) x ∧ a = .agg x.c, fun a => ∃ l : List Api.Kind, (l.length * 24 ≤ 140737488351232 ∧ ∀ x ∈ l, (fun _ => True) x) ∧ a = .sl (l.map Api.Kind.c)] avs) : Pure Try.prog 9 avs (.bool true) := by
    obtain ⟨_, _, rfl, ⟨x0, h0, rfl⟩, ⟨x1, h1, rfl⟩⟩ := all2_2 h
    obtain ⟨fuel, hf⟩ := KindCurries_true x0 x1 h1
    have := law08_KindCurries_ok fuel x0 x1 true hf
    simpa using this
theorem kindCurries_lifted (os : Os) (started : os.Started) (H : Type) (enc : TypeId × Value → H) :
    ReturnsInHanded {} Try.checked os 9 .any (Rows.kindCurriesSpec.pre6 enc Try.prog Try.f9 Rows.kindCurriesRow.domain false) (Rows.kindCurriesSpec.post enc Try.prog Try.f9 false true false false) := by
  refine law_lifted (C := Try.checked) (f := Try.f9) (s := Rows.kindCurriesSpec) own laid Try.func9 (by kernel_rfl) rfl Try.underlying4 rfl
    (fun H ds hd => by match ds, hd with | [_, _], _ => rfl)
    [fun a => ∃ x : Api.Kind, (fun _ => True) x ∧ a = .agg x.c, fun a => ∃ l : List Api.Kind, (l.length * 24 ≤ 140737488351232 ∧ ∀ x ∈ l, (fun _ => True) x) ∧ a = .sl (l.map Api.Kind.c)] ?_ ?_ kindCurries_pure started
    (ChangeSpec.witness6 (enc := enc) (C := Try.checked) false ⟨#[], #[.agg #[.slice none 0 0], .slice none 0 0], []⟩ 8 (by kernel_rfl) (by kernel_rfl) (by kernel_rfl) (by kernel_rfl))
  · exact ⟨opens_struct Try.underlying24 op24, opens_slice Try.underlying22 (m := 1) (b := 24) (by kernel_rfl) (by kernel_rfl) (by decide) (fun a => by simp) op24, trivial⟩
  · intro t ht
    have h : t ∈ [24, 22] := ht
    simp only [List.mem_cons, List.not_mem_nil, or_false] at h
    rcases h with rfl | rfl <;> exact ⟨by kernel_rfl, of_decide_eq_true (by kernel_rfl)⟩
theorem kindCurries_said : Rows.KindCurriesSaid :=
  OpenClaim.holds_of_wide 9 Try.f9 rfl rfl rfl rfl rfl rfl rfl ⟨rfl, rfl, rfl, rfl, rfl⟩ rfl rfl rfl rfl rfl (by kernel_rfl) Try.func9 (by kernel_rfl)
    (of_decide_eq_true (by kernel_rfl)) (by unfold Func.isWrapper; first | (rw [if_pos (by decide +kernel)]; kernel_rfl) | (rw [if_neg (by decide +kernel)]; exact ⟨rfl, rfl⟩))
    (fun os started H enc _ => kindCurries_lifted os started H enc)
end Go.Proofs.Ytcdjdpoahngkjaa
