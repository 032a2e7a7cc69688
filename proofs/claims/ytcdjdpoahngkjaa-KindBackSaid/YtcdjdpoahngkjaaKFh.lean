/- For every input the law KindBack returns true. Part 8 of 8. No condition. -/
import Derived.Test.YtcdjdpoahngkjaaKFg
set_option linter.unusedVariables false
set_option linter.unusedSimpArgs false
set_option maxRecDepth 100000
namespace Go.Proofs.Ytcdjdpoahngkjaa
open Go Go.Abs
theorem kindBack_pure (avs : List AV) (h : All2 (fun A a => A a) [fun a => ∃ x : Api.Kind, (fun _ => True) x ∧ a = .agg x.c, fun a => ∃ x : List UInt8, x.length ≤ 140737488351232 ∧ a = .str x] avs) : Pure Try.prog 8 avs (.bool true) := by
    obtain ⟨_, _, rfl, ⟨x0, h0, rfl⟩, ⟨x1, h1, rfl⟩⟩ := all2_2 h
    obtain ⟨fuel, hf⟩ := KindBack_true x0 x1 h1
    have := law08_KindBack_ok fuel x0 x1 true hf
    simpa using this
theorem kindBack_lifted (os : Os) (started : os.Started) (H : Type) (enc : TypeId × Value → H) :
    ReturnsInHanded {} Try.checked os 8 .any (Rows.kindBackSpec.pre6 enc Try.prog Try.f8 Rows.kindBackRow.domain false) (Rows.kindBackSpec.post enc Try.prog Try.f8 false true false false) := by
  refine law_lifted (C := Try.checked) (f := Try.f8) (s := Rows.kindBackSpec) own laid Try.func8 (by kernel_rfl) rfl Try.underlying4 rfl
    (fun H ds hd => by match ds, hd with | [_, _], _ => rfl)
    [fun a => ∃ x : Api.Kind, (fun _ => True) x ∧ a = .agg x.c, fun a => ∃ x : List UInt8, x.length ≤ 140737488351232 ∧ a = .str x] ?_ ?_ kindBack_pure started
    (ChangeSpec.witness6 (enc := enc) (C := Try.checked) false ⟨#[], #[.agg #[.slice none 0 0], .string ⟨#[]⟩], []⟩ 8 (by kernel_rfl) (by kernel_rfl) (by kernel_rfl) (by kernel_rfl))
  · exact ⟨opens_struct Try.underlying24 op24, opens_str Try.underlying9, trivial⟩
  · intro t ht
    have h : t ∈ [24, 9] := ht
    simp only [List.mem_cons, List.not_mem_nil, or_false] at h
    rcases h with rfl | rfl <;> exact ⟨by kernel_rfl, of_decide_eq_true (by kernel_rfl)⟩
theorem kindBack_said : Rows.KindBackSaid :=
  OpenClaim.holds_of_wide 8 Try.f8 rfl rfl rfl rfl rfl rfl rfl ⟨rfl, rfl, rfl, rfl, rfl⟩ rfl rfl rfl rfl rfl (by kernel_rfl) Try.func8 (by kernel_rfl)
    (of_decide_eq_true (by kernel_rfl)) (by unfold Func.isWrapper; first | (rw [if_pos (by decide +kernel)]; kernel_rfl) | (rw [if_neg (by decide +kernel)]; exact ⟨rfl, rfl⟩))
    (fun os started H enc _ => kindBack_lifted os started H enc)
end Go.Proofs.Ytcdjdpoahngkjaa
