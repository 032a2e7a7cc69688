/- For every input the law KindBuilds returns true. Part 8 of 8. No condition. -/
import Derived.Test.YtcdjdpoahngkjaaKDg
set_option linter.unusedVariables false
set_option linter.unusedSimpArgs false
set_option maxRecDepth 100000
namespace Go.Proofs.Ytcdjdpoahngkjaa
open Go Go.Abs
theorem kindBuilds_pure (avs : List AV) (h : All2 (fun A a => A a) [fun a => ∃ l : List Api.Kind, (l.length * 24 ≤ 140737488351232 ∧ ∀ x ∈ l, (fun _ => True) x) ∧ a = .sl (l.map Api.Kind.c), fun a => ∃ x : Api.Kind, (fun _ => True) x ∧ a = .agg x.c, fun a => ∃ x, Rng .i64 x ∧ a = .int .i64 x] avs) : Pure Try.prog 6 avs (.bool true) := by
    obtain ⟨_, _, _, rfl, ⟨x0, h0, rfl⟩, ⟨x1, h1, rfl⟩, ⟨x2, h2, rfl⟩⟩ := all2_3 h
    obtain ⟨fuel, hf⟩ := KindBuilds_true x0 x1 x2 h0 h2
    have := law08_KindBuilds_ok fuel x0 x1 x2 true hf
    simpa using this
theorem kindBuilds_lifted (os : Os) (started : os.Started) (H : Type) (enc : TypeId × Value → H) :
    ReturnsInHanded {} Try.checked os 6 .any (Rows.kindBuildsSpec.pre6 enc Try.prog Try.f6 Rows.kindBuildsRow.domain false) (Rows.kindBuildsSpec.post enc Try.prog Try.f6 false true false false) := by
  refine law_lifted (C := Try.checked) (f := Try.f6) (s := Rows.kindBuildsSpec) own laid Try.func6 (by kernel_rfl) rfl Try.underlying4 rfl
    (fun H ds hd => by match ds, hd with | [_, _, _], _ => rfl)
    [fun a => ∃ l : List Api.Kind, (l.length * 24 ≤ 140737488351232 ∧ ∀ x ∈ l, (fun _ => True) x) ∧ a = .sl (l.map Api.Kind.c), fun a => ∃ x : Api.Kind, (fun _ => True) x ∧ a = .agg x.c, fun a => ∃ x, Rng .i64 x ∧ a = .int .i64 x] ?_ ?_ kindBuilds_pure started
    (ChangeSpec.witness6 (enc := enc) (C := Try.checked) false ⟨#[], #[.slice none 0 0, .agg #[.slice none 0 0], .int .i64 0], []⟩ 8 (by kernel_rfl) (by kernel_rfl) (by kernel_rfl) (by kernel_rfl))
  · exact ⟨opens_slice Try.underlying22 (m := 1) (b := 24) (by kernel_rfl) (by kernel_rfl) (by decide) (fun a => by simp) op24, opens_struct Try.underlying24 op24, opens_int Try.underlying3, trivial⟩
  · intro t ht
    have h : t ∈ [22, 24, 3] := ht
    simp only [List.mem_cons, List.not_mem_nil, or_false] at h
    rcases h with rfl | rfl | rfl <;> exact ⟨by kernel_rfl, of_decide_eq_true (by kernel_rfl)⟩
theorem kindBuilds_said : Rows.KindBuildsSaid :=
  OpenClaim.holds_of_wide 6 Try.f6 rfl rfl rfl rfl rfl rfl rfl ⟨rfl, rfl, rfl, rfl, rfl⟩ rfl rfl rfl rfl rfl (by kernel_rfl) Try.func6 (by kernel_rfl)
    (of_decide_eq_true (by kernel_rfl)) (by unfold Func.isWrapper; first | (rw [if_pos (by decide +kernel)]; kernel_rfl) | (rw [if_neg (by decide +kernel)]; exact ⟨rfl, rfl⟩))
    (fun os started H enc _ => kindBuilds_lifted os started H enc)
end Go.Proofs.Ytcdjdpoahngkjaa
