/- For every input the law KindForms returns true. Part 8 of 8. No condition. -/
import Derived.Test.YtcdjdpoahngkjaaKBg
set_option linter.unusedVariables false
set_option linter.unusedSimpArgs false
set_option maxRecDepth 100000
namespace Go.Proofs.Ytcdjdpoahngkjaa
open Go Go.Abs
theorem kindForms_pure (avs : List AV) (h : All2 (fun A a => A a) [fun a => ∃ x : Api.Kind, (fun _ => True) x ∧ a = .agg x.c, fun a => ∃ x : Api.Kind, (fun _ => True) x ∧ a = .agg x.c] avs) : Pure Try.prog 4 avs (.bool true) := by
  match avs, h with
  | [_, _], h =>
    obtain ⟨⟨x0, h0, rfl⟩, ⟨x1, h1, rfl⟩, _⟩ := h
    obtain ⟨fuel, hf⟩ := KindForms_true x0 x1
    have := law08_KindForms_ok fuel x0 x1 true hf
    simpa using this
theorem kindForms_lifted (os : Os) (started : os.Started) (H : Type) (enc : TypeId × Value → H) :
    ReturnsInHanded {} Try.checked os 4 .any (Rows.kindFormsSpec.pre6 enc Try.prog Try.f4 Rows.kindFormsRow.domain false) (Rows.kindFormsSpec.post enc Try.prog Try.f4 false true false false) := by
  refine law_lifted (C := Try.checked) (f := Try.f4) (s := Rows.kindFormsSpec) own laid Try.func4 (by kernel_rfl) rfl Try.underlying4 rfl
    (fun H ds hd => by match ds, hd with | [_, _], _ => rfl)
    [fun a => ∃ x : Api.Kind, (fun _ => True) x ∧ a = .agg x.c, fun a => ∃ x : Api.Kind, (fun _ => True) x ∧ a = .agg x.c] ?_ ?_ kindForms_pure started
    (ChangeSpec.witness6 (enc := enc) (C := Try.checked) false ⟨#[], #[.agg #[.slice none 0 0], .agg #[.slice none 0 0]], []⟩ 8 (by kernel_rfl) (by kernel_rfl) (by kernel_rfl) (by kernel_rfl))
  · exact ⟨opens_struct Try.underlying24 op24, opens_struct Try.underlying24 op24, trivial⟩
  · intro t ht
    have h : t ∈ [24, 24] := ht
    simp only [List.mem_cons, List.not_mem_nil, or_false] at h
    rcases h with rfl | rfl <;> exact ⟨by kernel_rfl, of_decide_eq_true (by kernel_rfl)⟩
theorem kindForms_said : Rows.KindFormsSaid :=
  OpenClaim.holds_of_wide 4 Try.f4 rfl rfl rfl rfl rfl rfl rfl ⟨rfl, rfl, rfl, rfl, rfl⟩ rfl rfl rfl rfl rfl (by kernel_rfl) Try.func4 (by kernel_rfl)
    (of_decide_eq_true (by kernel_rfl)) (by unfold Func.isWrapper; first | (rw [if_pos (by decide +kernel)]; kernel_rfl) | (rw [if_neg (by decide +kernel)]; exact ⟨rfl, rfl⟩))
    (fun os started H enc _ => kindForms_lifted os started H enc)
end Go.Proofs.Ytcdjdpoahngkjaa
