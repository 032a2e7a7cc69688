/- For every input the law ExplainBack returns true. Part 13 of 14. No condition. -/
import Derived.Test.YtlhikhaailhoaaaDoorLHl
import Derived.Lib.IndexLaws
set_option linter.unusedVariables false
set_option linter.unusedSimpArgs false
set_option maxRecDepth 100000
namespace Go.Proofs.YtlhikhaailhoaaaDoor
open Go Go.Abs
theorem HasPrefix_M (s t : List UInt8) : M.stringslite_HasPrefix s t = some (decide (s.take t.length = t)) := by
  rw [M.stringslite_HasPrefix]
  by_cases h : t.length ≤ s.length
  · rw [if_pos (show leI (t.length : Int) (s.length : Int) = true from decide_eq_true (by omega)), subT s t.length h]; rfl
  · rw [if_neg (show ¬ leI (t.length : Int) (s.length : Int) = true from fun h' => by have := leT h'; omega)]
    have : ¬ s.take t.length = t := fun e => by have := congrArg List.length e; simp at this; omega
    rw [decide_eq_false this]; rfl
theorem CutPrefix_M (s t : List UInt8) : M.strings_CutPrefix s t = some (if s.take t.length = t then (s.drop t.length, true) else (s, false)) := by
  rw [M.strings_CutPrefix, M.stringslite_CutPrefix, HasPrefix_M]
  simp only [obind]
  by_cases h : s.take t.length = t
  · have hl : t.length ≤ s.length := by have := congrArg List.length h; simp at this; omega
    rw [decide_eq_true h, if_pos h, subD s t.length hl]; rfl
  · rw [decide_eq_false h, if_neg h]; rfl
theorem CutSuffix_M (s t : List UInt8) (hs : s.length ≤ 100000) : M.strings_CutSuffix s t = some (if t.length ≤ s.length ∧ s.drop (s.length - t.length) = t then (s.take (s.length - t.length), true) else (s, false)) := by
  rw [M.strings_CutSuffix, M.stringslite_CutSuffix, M.stringslite_HasSuffix]
  by_cases h : t.length ≤ s.length
  · have e : (s.length : Int) - (t.length : Int) = ((s.length - t.length : Nat) : Int) := by omega
    rw [if_pos (show leI (t.length : Int) (s.length : Int) = true from decide_eq_true (by omega)), e, subD s _ (by omega)]
    simp only [obind]
    by_cases h2 : s.drop (s.length - t.length) = t
    · rw [show eqS (s.drop (s.length - t.length)) t = true from decide_eq_true h2, if_pos (show t.length ≤ s.length ∧ s.drop (s.length - t.length) = t from ⟨h, h2⟩)]
      simp only [Bool.not_true, Bool.false_eq_true, if_false]
      rw [chk64 (by omega) (by omega)]
      simp only [obind]
      rw [subT s _ (by omega)]; rfl
    · rw [show eqS (s.drop (s.length - t.length)) t = false from decide_eq_false h2, if_neg (show ¬ (t.length ≤ s.length ∧ s.drop (s.length - t.length) = t) from fun e => h2 e.2)]; rfl
  · rw [if_neg (show ¬ leI (t.length : Int) (s.length : Int) = true from fun h' => by have := leT h'; omega), if_neg (show ¬ (t.length ≤ s.length ∧ s.drop (s.length - t.length) = t) from fun e => h e.1)]; rfl
theorem parsed_ex (s : List UInt8) (hs : s.length ≤ 100000) : ∃ r, M.explain_parsed s = some r := by
  rw [M.explain_parsed]
  split; · exact ⟨_, rfl⟩
  split; · exact ⟨_, rfl⟩
  split; · exact ⟨_, rfl⟩
  rw [CutPrefix_M]
  simp only [obind]
  by_cases h : s.take ([116, 104, 101, 32, 105, 110, 116, 101, 114, 102, 97, 99, 101, 32, 111, 102, 32] : List UInt8).length = [116, 104, 101, 32, 105, 110, 116, 101, 114, 102, 97, 99, 101, 32, 111, 102, 32]
  · rw [if_pos h]
    simp only [if_true]
    rw [CutSuffix_M _ _ (by rw [List.length_drop]; omega)]
    exact ⟨_, rfl⟩
  · rw [if_neg h]
    exact ⟨_, rfl⟩
theorem parsed_M {x : Api.Step} (hv : vst x = true) : M.explain_parsed (rsn x.Reason) = some x.Reason := by
  obtain ⟨_, h2, _, h4⟩ := vst_iff hv
  obtain ⟨u, ⟨op, ru⟩, c, co, sa⟩ := x
  dsimp only at h2 h4 ⊢
  have hop : op = 0 ∨ op = 1 ∨ op = 2 ∨ op = 3 ∨ op = 4 := by omega
  rcases hop with rfl | rfl | rfl | rfl | rfl
  · rw [if_neg (by decide)] at h4; subst h4; rfl
  · rw [if_neg (by decide)] at h4; subst h4; rfl
  · rw [if_neg (by decide)] at h4; subst h4; rfl
  · rw [if_neg (by decide)] at h4; subst h4; rfl
  · rw [if_pos rfl] at h4
    have hu := upS_len h4
    have e : rsn (Api.Reason.mk 4 ru) = BEF ++ ru ++ AFT := rfl
    have el : (ru ++ AFT).length = ru.length + 12 := by rw [List.length_append]; rfl
    have hb : BEF = 116 :: [104, 101, 32, 105, 110, 116, 101, 114, 102, 97, 99, 101, 32, 111, 102, 32] := rfl
    have n1 : ∀ t : List UInt8, eqS (BEF ++ ru ++ AFT) (110 :: t) = false := fun t => decide_eq_false (by rw [hb]; simp)
    have n2 : ∀ t : List UInt8, eqS (BEF ++ ru ++ AFT) (111 :: t) = false := fun t => decide_eq_false (by rw [hb]; simp)
    rw [e, M.explain_parsed, n1, n1, n2]
    simp only [Bool.false_eq_true, if_false]
    have hcp := CutPrefix_M (BEF ++ ru ++ AFT) BEF
    rw [List.append_assoc, List.take_left, if_pos rfl, List.drop_left] at hcp
    rw [List.append_assoc]
    change ((M.strings_CutPrefix (BEF ++ (ru ++ AFT)) BEF).bind _) = _
    rw [hcp]
    simp only [obind, if_true]
    have hcs := CutSuffix_M (ru ++ AFT) AFT (by omega)
    have e2 : (ru ++ AFT).length - AFT.length = ru.length := by rw [List.length_append]; omega
    rw [e2, List.drop_left, List.take_left, if_pos ⟨by rw [el]; show 12 ≤ _; omega, rfl⟩] at hcs
    change ((M.strings_CutSuffix (ru ++ AFT) AFT).bind _) = _
    rw [hcs]
    rfl
theorem code_ex (v : List (List UInt8)) (t : List UInt8) (hv : v[3]? = some t) : ∀ (n i k cur : Nat), i + n = 31 → n + 1 ≤ k → ∃ c, M.explain_Parse_l1 v k cur i = some c := by
  intro n
  induction n with
  | zero =>
    intro i k cur hi hk
    obtain ⟨g, rfl⟩ : ∃ g, k = g + 1 := ⟨k - 1, by omega⟩
    rw [M.explain_Parse_l1, if_neg (show ¬ leI (i : Int) 30 = true from fun h => by have := leT h; omega)]
    exact ⟨_, rfl⟩
  | succ n ih =>
    intro i k cur hi hk
    obtain ⟨g, rfl⟩ : ∃ g, k = g + 1 := ⟨k - 1, by omega⟩
    rw [M.explain_Parse_l1, if_pos (show leI (i : Int) 30 = true from decide_eq_true (by omega)), Error_M, hv]
    simp only [obind]
    split
    · exact ih _ _ _ (by omega) (by omega)
    · exact ih _ _ _ (by omega) (by omega)
theorem code_M (v : List (List UInt8)) (c : Nat) (hc : c ≤ 30) (hv : v[3]? = some (errT c)) : ∀ (n i k cur : Nat), i + n = 31 → n + 1 ≤ k → M.explain_Parse_l1 v k cur i = some (((if i ≤ c then c else cur) : Nat) : Int) := by
  intro n
  induction n with
  | zero =>
    intro i k cur hi hk
    obtain ⟨g, rfl⟩ : ∃ g, k = g + 1 := ⟨k - 1, by omega⟩
    rw [M.explain_Parse_l1, if_neg (show ¬ leI (i : Int) 30 = true from fun h => by have := leT h; omega), if_neg (by omega)]
  | succ n ih =>
    intro i k cur hi hk
    obtain ⟨g, rfl⟩ : ∃ g, k = g + 1 := ⟨k - 1, by omega⟩
    rw [M.explain_Parse_l1, if_pos (show leI (i : Int) 30 = true from decide_eq_true (by omega)), Error_M, hv]
    simp only [obind]
    by_cases h : i = c
    · subst h
      rw [if_pos (show eqS (errT (i : Int)) (errT (i : Int)) = true from decide_eq_true rfl), ih _ _ _ (by omega) (by omega), if_neg (by omega), if_pos (Nat.le_refl _)]
    · rw [if_neg (show ¬ eqS (errT (i : Int)) (errT (c : Int)) = true from fun e => h (errT_inj (by omega) hc (of_decide_eq_true e))), ih _ _ _ (by omega) (by omega)]
      by_cases h2 : i ≤ c
      · rw [if_pos h2, if_pos (by omega)]
      · rw [if_neg h2, if_neg (by omega)]
def zero : Api.Step := Api.Step.mk [] (Api.Reason.mk 0 []) false 0 false
theorem i58 : inU 58 = false := rfl
theorem i59 : inU 59 = false := rfl
theorem i32 : inU 32 = false := rfl
theorem i10 : inU 10 = false := rfl
theorem cut_txt {x : Api.Step} (hv : vst x = true) : Lib.cut (txt x) [58, 32] = (x.Unit, rest x, true) := cut_part 58 [32] (rest x) x.Unit (upS_not (vst_iff hv).1 i58)
theorem split_rest {x : Api.Step} (hv : vst x = true) : Lib.split (rest x) [59, 32] = [rsn x.Reason, cmp x.Compiled, sme x.Same, errT x.Code] := by
  have h1 : (59 : UInt8) ∉ rsn x.Reason := (rsn_ok hv).2.2 59 i59 (by decide) (by decide) (by decide) (by decide) (by decide) (by decide)
  have h2 : (59 : UInt8) ∉ cmp x.Compiled := by cases x.Compiled <;> decide
  have h3 : (59 : UInt8) ∉ sme x.Same := by cases x.Same <;> decide
  unfold rest
  rw [split_part 59 [32] _ _ h1, split_part 59 [32] _ _ h2, split_part 59 [32] _ _ h3, split_last 59 [32] _ (errT_ok x.Code).2.1]
theorem Parse_txt {x : Api.Step} (hv : vst x = true) {fuel : Nat} (hf : 100 ≤ fuel) : M.explain_Parse fuel (txt x) = some (x, 0) := by
  have hl := txt_len hv
  have hr : (rest x).length ≤ 200 := by unfold txt at hl; rw [List.length_append] at hl; omega
  rw [M.explain_Parse, if_neg (show ¬ ltI 16384 ((txt x).length : Int) = true from fun h => by have := ltT h; omega), M.strings_Cut, if_pos (by omega), cut_txt hv]
  simp only [obind]
  rw [M.strings_Split, if_pos ⟨by omega, by decide⟩, split_rest hv]
  simp only [obind]
  rw [if_neg (show ¬ (!eqI (([rsn x.Reason, cmp x.Compiled, sme x.Same, errT x.Code] : List (List UInt8)).length : Int) 4) = true from by simp [eqI])]
  simp only [List.getElem?_cons_zero, List.getElem?_cons_succ, obind, parsed_M hv]
  obtain ⟨c, hc⟩ : ∃ c : Nat, x.Code = c := ⟨x.Code.toNat, by have := (vst_iff hv).2.2.1; omega⟩
  have hc30 : c ≤ 30 := by have := (vst_iff hv).2.2.1; omega
  rw [code_M [rsn x.Reason, cmp x.Compiled, sme x.Same, errT x.Code] c hc30 (by rw [← hc]; rfl) 31 0 fuel 0 (by omega) (by omega), if_pos (Nat.zero_le _)]
  simp only [obind]
  have e1 : eqS (cmp x.Compiled) [99, 111, 109, 112, 105, 108, 101, 100] = x.Compiled := by cases x.Compiled <;> rfl
  have e2 : eqS (sme x.Same) [115, 97, 109, 101, 32, 105, 110, 116, 101, 114, 102, 97, 99, 101] = x.Same := by cases x.Same <;> rfl
  have ex : Api.Step.mk x.Unit x.Reason x.Compiled (c : Int) x.Same = x := by rw [← hc]
  rw [e1, e2, ex, Step_M x (by omega), if_pos hv]
  simp only [obind]
  rw [show eqI 0 0 = true from rfl, show eqS (txt x) (txt x) = true from decide_eq_true rfl]
  rfl
theorem txt_inj {x y : Api.Step} (hx : vst x = true) (hy : vst y = true) (h : txt x = txt y) : x = y := by
  have a := Parse_txt hx (fuel := 100) (Nat.le_refl _)
  have b := Parse_txt hy (fuel := 100) (Nat.le_refl _)
  rw [h, b] at a
  exact (Prod.mk.inj (Option.some.inj a)).1.symm
def PSpec (s : List UInt8) (r : Api.Step × Int) : Prop := (∃ x, vst x = true ∧ txt x = s ∧ r = (x, 0)) ∨ ((∀ x, vst x = true → txt x ≠ s) ∧ r = (zero, 3))
theorem PSpec.det {s : List UInt8} {r r' : Api.Step × Int} (h : PSpec s r) (h' : PSpec s r') : r = r' := by
  rcases h with ⟨x, x1, x2, rfl⟩ | ⟨h1, rfl⟩
  · rcases h' with ⟨y, y1, y2, rfl⟩ | ⟨h1, rfl⟩
    · rw [txt_inj x1 y1 (x2.trans y2.symm)]
    · exact (h1 x x1 x2).elim
  · rcases h' with ⟨y, y1, y2, rfl⟩ | ⟨h1', rfl⟩
    · exact (h1 y y1 y2).elim
    · rfl
theorem Parse_M (s : List UInt8) (hs : s.length ≤ 16384) {fuel : Nat} (hf : 100 ≤ fuel) : ∃ r, M.explain_Parse fuel s = some r ∧ PSpec s r := by
  suffices h : ∃ r, M.explain_Parse fuel s = some r ∧ ((∃ x, vst x = true ∧ txt x = s ∧ r = (x, 0)) ∨ r = (zero, 3)) by
    obtain ⟨r, r1, r2⟩ := h
    refine ⟨r, r1, ?_⟩
    rcases r2 with r2 | rfl
    · exact .inl r2
    · refine .inr ⟨fun x hx e => ?_, rfl⟩
      have := Parse_txt hx hf
      rw [e, r1] at this
      have := (Prod.mk.inj (Option.some.inj this)).2
      exact absurd this (by decide)
  rw [M.explain_Parse, if_neg (show ¬ ltI 16384 (s.length : Int) = true from fun h => by have := ltT h; omega), M.strings_Cut, if_pos (by omega)]
  simp only [obind]
  have hc : (Lib.cut s [58, 32]).2.1.length ≤ s.length := by
    unfold Lib.cut
    split
    · show (s.drop _).length ≤ _; rw [List.length_drop]; omega
    · exact Nat.zero_le _
  generalize Lib.cut s [58, 32] = v at hc
  rw [M.strings_Split, if_pos ⟨by omega, by decide⟩]
  simp only [obind]
  have hp : ∀ z ∈ Lib.split v.2.1 [59, 32], z.length ≤ 16384 := fun z hz => by have := split_short hz; omega
  generalize Lib.split v.2.1 [59, 32] = l at hp
  by_cases h4 : l.length = 4
  · rw [if_neg (show ¬ (!eqI (l.length : Int) 4) = true from by simp [eqI, h4])]
    match l, h4, hp with
    | [p0, p1, p2, p3], _, hp =>
      simp only [List.getElem?_cons_zero, List.getElem?_cons_succ, obind]
      obtain ⟨r, hr⟩ := parsed_ex p0 (by have := hp p0 (by simp); omega)
      obtain ⟨c, hc'⟩ := code_ex [p0, p1, p2, p3] p3 rfl 31 0 fuel 0 (by omega) (by omega)
      rw [hr, hc']
      simp only [obind]
      generalize Api.Step.mk v.1 r (eqS p1 [99, 111, 109, 112, 105, 108, 101, 100]) c (eqS p2 [115, 97, 109, 101, 32, 105, 110, 116, 101, 114, 102, 97, 99, 101]) = out
      rw [Step_M out (by omega)]
      simp only [obind]
      by_cases hv : vst out = true
      · rw [if_pos hv]
        by_cases ht : txt out = s
        · rw [show eqI 0 0 = true from rfl, show eqS (txt out) s = true from decide_eq_true ht]
          exact ⟨_, rfl, .inl ⟨out, hv, ht, rfl⟩⟩
        · rw [show eqS (txt out) s = false from decide_eq_false ht]
          exact ⟨_, by simp; rfl, .inr rfl⟩
      · rw [if_neg hv]
        exact ⟨_, rfl, .inr rfl⟩
  · rw [if_pos (show (!eqI (l.length : Int) 4) = true from by
      rw [show eqI (l.length : Int) 4 = false from decide_eq_false (by omega)]; rfl)]
    exact ⟨_, rfl, .inr rfl⟩
theorem rsplit_loop (s : List UInt8) (c : UInt8) (t : List UInt8) (hs : s.length ≤ 100000) (ht : (c :: t).length ≤ 100) : ∀ (n i k : Nat), i + n = s.length + 1 → n + 1 ≤ k → Lib.NoOcc s (c :: t) i →
    M.ref55_split_l1 s (c :: t) k i = some (if 0 ≤ Lib.index s (c :: t) then .inl (s.take (Lib.index s (c :: t)).toNat, s.drop ((Lib.index s (c :: t)).toNat + (c :: t).length), true) else .inr ()) := by
  intro n
  have hm : 1 ≤ (c :: t).length := by simp
  generalize hsub : c :: t = sub at ht hm
  have hne : sub ≠ [] := by rw [← hsub]; simp
  induction n with
  | zero =>
    intro i k hi hk ho
    obtain ⟨g, rfl⟩ : ∃ g, k = g + 1 := ⟨k - 1, by omega⟩
    have hp := Lib.index_past hne ho (by omega)
    rw [M.ref55_split_l1, chk64 (by omega) (by omega)]
    simp only [obind]
    rw [if_neg (show ¬ leI ((i : Int) + (sub.length : Int)) (s.length : Int) = true from fun h => by have := leT h; omega), hp]
    rfl
  | succ n ih =>
    intro i k hi hk ho
    obtain ⟨g, rfl⟩ : ∃ g, k = g + 1 := ⟨k - 1, by omega⟩
    rw [M.ref55_split_l1, chk64 (by omega) (by omega)]
    simp only [obind]
    by_cases hle : i + sub.length ≤ s.length
    · rw [if_pos (show leI ((i : Int) + (sub.length : Int)) (s.length : Int) = true from decide_eq_true (by omega))]
      have hsb : subC s (i : Int) ((i : Int) + (sub.length : Int)) = some ((s.drop i).take sub.length) := by
        rw [subC, if_pos ⟨by omega, by omega, by omega⟩]
        unfold Abs.sub
        rw [show ((i : Int) + (sub.length : Int)).toNat - (i : Int).toNat = sub.length by omega, Int.toNat_natCast]
      rw [hsb]
      simp only [obind]
      by_cases heq : (s.drop i).take sub.length = sub
      · have hocc : Lib.occAt s sub i = true := by
          unfold Lib.occAt
          rw [List.isPrefixOf_iff_prefix, List.prefix_iff_eq_take]
          exact heq.symm
        have hx := Lib.index_hit ho (by omega) hocc
        rw [if_pos (show eqS ((s.drop i).take sub.length) sub = true from decide_eq_true heq), subT s i (by omega)]
        simp only [obind]
        rw [show ((i : Int) + (sub.length : Int)) = ((i + sub.length : Nat) : Int) by omega, subD s _ hle, hx, if_pos (by omega), Int.toNat_natCast]
        rfl
      · have hocc : Lib.occAt s sub i = false := by
          cases h : Lib.occAt s sub i
          · rfl
          · unfold Lib.occAt at h
            rw [List.isPrefixOf_iff_prefix, List.prefix_iff_eq_take] at h
            exact (heq h.symm).elim
        rw [if_neg (show ¬ eqS ((s.drop i).take sub.length) sub = true from fun e => heq (of_decide_eq_true e)), chk64 (by omega) (by omega)]
        simp only [obind]
        exact ih (i + 1) g (by omega) (by omega) (ho.succ hocc)
    · have hp := Lib.index_past hne ho (by omega)
      rw [if_neg (show ¬ leI ((i : Int) + (sub.length : Int)) (s.length : Int) = true from fun h => by have := leT h; omega), hp]
      rfl
theorem rsplit_M (s : List UInt8) (c : UInt8) (t : List UInt8) (hs : s.length ≤ 100000) (ht : (c :: t).length ≤ 100) {fuel : Nat} (hf : s.length + 5 ≤ fuel) : M.ref55_split fuel s (c :: t) = some (Lib.cut s (c :: t)) := by
  rw [M.ref55_split]
  have := rsplit_loop s c t hs ht (s.length + 1) 0 fuel (by omega) (by omega) (Lib.NoOcc.zero _ _)
  change ((M.ref55_split_l1 s (c :: t) fuel ((0 : Nat) : Int)).bind _) = _
  rw [this]
  unfold Lib.cut
  simp only [obind]
  split <;> rfl
def cand (u o : List UInt8) (op bits code : Nat) : Api.Step := Api.Step.mk u (Api.Reason.mk op (if op = 4 then o else [])) (eqI (andI .i64 (bits : Int) 1) 1) code (eqI (andI .i64 (bits : Int) 2) 2)
theorem try_M (C : Api.Step) (s : List UInt8) {fuel : Nat} (hf : 30 ≤ fuel) : ((M.ref55_Valid fuel C).bind fun v => if v = true then (M.ref55_Text C).bind fun w => some (eqS w s) else some false) = some (vst C && decide (txt C = s)) := by
  rw [Valid_M C hf]
  simp only [obind]
  cases h : vst C
  · rfl
  · rw [if_pos rfl, Text_M h]; rfl
theorem l3_M (s : List UInt8) (v w : List UInt8 × List UInt8 × Bool) (op bits : Nat) {fuel : Nat} (hf : 30 ≤ fuel) : ∀ (n i k : Nat), i + n = 31 → n + 1 ≤ k → ∃ o, M.ref55_Parse_l3 fuel s v w op bits k i = some o ∧
    ((∃ x, o = .inl (x, 0) ∧ vst x = true ∧ txt x = s) ∨ (o = .inr () ∧ ∀ j, i ≤ j → j ≤ 30 → ¬ (vst (cand v.1 w.1 op bits j) = true ∧ txt (cand v.1 w.1 op bits j) = s))) := by
  intro n
  induction n with
  | zero =>
    intro i k hi hk
    obtain ⟨g, rfl⟩ : ∃ g, k = g + 1 := ⟨k - 1, by omega⟩
    rw [M.ref55_Parse_l3, if_neg (show ¬ leI (i : Int) 30 = true from fun h => by have := leT h; omega)]
    exact ⟨_, rfl, .inr ⟨rfl, fun j h1 h2 => by omega⟩⟩
  | succ n ih =>
    intro i k hi hk
    obtain ⟨g, rfl⟩ : ∃ g, k = g + 1 := ⟨k - 1, by omega⟩
    obtain ⟨o, o1, o2⟩ := ih (i + 1) g (by omega) (by omega)
    have key : ∀ C : Api.Step, C = cand v.1 w.1 op bits i → ∃ o', (((M.ref55_Valid fuel C).bind fun v => if v = true then (M.ref55_Text C).bind fun w => some (eqS w s) else some false).bind fun b =>
        if b = true then some (Sum.inl (C, (0 : Int))) else M.ref55_Parse_l3 fuel s v w op bits g (i + 1)) = some o' ∧
        ((∃ x, o' = .inl (x, 0) ∧ vst x = true ∧ txt x = s) ∨ (o' = .inr () ∧ ∀ j, i ≤ j → j ≤ 30 → ¬ (vst (cand v.1 w.1 op bits j) = true ∧ txt (cand v.1 w.1 op bits j) = s))) := fun C hC => by
      rw [try_M C s hf]
      simp only [obind]
      cases hb : (vst C && decide (txt C = s))
      · refine ⟨o, o1, ?_⟩
        rcases o2 with o2 | ⟨o2, o3⟩
        · exact .inl o2
        · refine .inr ⟨o2, fun j h1 h2 hj => ?_⟩
          by_cases e : j = i
          · subst e
            rw [← hC, ] at hj
            rw [hj.1, decide_eq_true hj.2] at hb
            cases hb
          · exact o3 j (by omega) h2 hj
      · simp only [Bool.and_eq_true, decide_eq_true_eq] at hb
        exact ⟨_, rfl, .inl ⟨C, rfl, hb.1, hb.2⟩⟩
    rw [M.ref55_Parse_l3, if_pos (show leI (i : Int) 30 = true from decide_eq_true (by omega))]
    by_cases h4 : op = 4
    · rw [if_pos (show eqI (op : Int) 4 = true from decide_eq_true (by omega))]
      exact key _ (by unfold cand; rw [if_pos h4])
    · rw [if_neg (show ¬ eqI (op : Int) 4 = true from fun e => h4 (by have := eqT e; omega))]
      exact key _ (by unfold cand; rw [if_neg h4])
theorem l2_M (s : List UInt8) (v w : List UInt8 × List UInt8 × Bool) (op : Nat) {fuel : Nat} (hf : 40 ≤ fuel) : ∀ (n i k : Nat), i + n = 4 → n + 1 ≤ k → ∃ o, M.ref55_Parse_l2 fuel s v w op k i = some o ∧
    ((∃ x, o = .inl (x, 0) ∧ vst x = true ∧ txt x = s) ∨ (o = .inr () ∧ ∀ b, i ≤ b → b < 4 → ∀ j, j ≤ 30 → ¬ (vst (cand v.1 w.1 op b j) = true ∧ txt (cand v.1 w.1 op b j) = s))) := by
  intro n
  induction n with
  | zero =>
    intro i k hi hk
    obtain ⟨g, rfl⟩ : ∃ g, k = g + 1 := ⟨k - 1, by omega⟩
    rw [M.ref55_Parse_l2, if_neg (show ¬ ltI (i : Int) 4 = true from fun h => by have := ltT h; omega)]
    exact ⟨_, rfl, .inr ⟨rfl, fun j h1 h2 => by omega⟩⟩
  | succ n ih =>
    intro i k hi hk
    obtain ⟨g, rfl⟩ : ∃ g, k = g + 1 := ⟨k - 1, by omega⟩
    obtain ⟨o, o1, o2⟩ := ih (i + 1) g (by omega) (by omega)
    obtain ⟨q, q1, q2⟩ := l3_M s v w op i (fuel := fuel) (by omega) 31 0 fuel (by omega) (by omega)
    rw [M.ref55_Parse_l2, if_pos (show ltI (i : Int) 4 = true from decide_eq_true (by omega)), q1]
    simp only [obind]
    rcases q2 with ⟨x, rfl, x1, x2⟩ | ⟨rfl, q3⟩
    · exact ⟨_, rfl, .inl ⟨x, rfl, x1, x2⟩⟩
    · refine ⟨o, o1, ?_⟩
      rcases o2 with o2 | ⟨o2, o3⟩
      · exact .inl o2
      · refine .inr ⟨o2, fun b h1 h2 j hj => ?_⟩
        by_cases e : b = i
        · subst e; exact q3 j (Nat.zero_le _) hj
        · exact o3 b (by omega) h2 j hj
theorem l1_M (s : List UInt8) (v w : List UInt8 × List UInt8 × Bool) {fuel : Nat} (hf : 40 ≤ fuel) : ∀ (n i k : Nat), i + n = 5 → n + 1 ≤ k → ∃ o, M.ref55_Parse_l1 fuel s v w k i = some o ∧
    ((∃ x, o = .inl (x, 0) ∧ vst x = true ∧ txt x = s) ∨ (o = .inr () ∧ ∀ p, i ≤ p → p ≤ 4 → ∀ b, b < 4 → ∀ j, j ≤ 30 → ¬ (vst (cand v.1 w.1 p b j) = true ∧ txt (cand v.1 w.1 p b j) = s))) := by
  intro n
  induction n with
  | zero =>
    intro i k hi hk
    obtain ⟨g, rfl⟩ : ∃ g, k = g + 1 := ⟨k - 1, by omega⟩
    rw [M.ref55_Parse_l1, if_neg (show ¬ leI (i : Int) 4 = true from fun h => by have := leT h; omega)]
    exact ⟨_, rfl, .inr ⟨rfl, fun j h1 h2 => by omega⟩⟩
  | succ n ih =>
    intro i k hi hk
    obtain ⟨g, rfl⟩ : ∃ g, k = g + 1 := ⟨k - 1, by omega⟩
    obtain ⟨o, o1, o2⟩ := ih (i + 1) g (by omega) (by omega)
    obtain ⟨q, q1, q2⟩ := l2_M s v w i (fuel := fuel) hf 4 0 fuel (by omega) (by omega)
    rw [M.ref55_Parse_l1, if_pos (show leI (i : Int) 4 = true from decide_eq_true (by omega)), q1]
    simp only [obind]
    rcases q2 with ⟨x, rfl, x1, x2⟩ | ⟨rfl, q3⟩
    · exact ⟨_, rfl, .inl ⟨x, rfl, x1, x2⟩⟩
    · refine ⟨o, o1, ?_⟩
      rcases o2 with o2 | ⟨o2, o3⟩
      · exact .inl o2
      · refine .inr ⟨o2, fun p h1 h2 b hb j hj => ?_⟩
        by_cases e : p = i
        · subst e; exact q3 b (Nat.zero_le _) hb j hj
        · exact o3 p (by omega) h2 b hb j hj
theorem l6_eq (s : List UInt8) (v : List UInt8 × List UInt8 × Bool) (op bits fuel : Nat) : ∀ (k i : Nat), M.ref55_Parse_l6 fuel s v op bits k i = M.ref55_Parse_l3 fuel s v ([], [], false) op bits k i
  | 0, _ => rfl
  | k + 1, i => by
    rw [M.ref55_Parse_l6, M.ref55_Parse_l3, l6_eq s v op bits fuel k (i + 1)]
theorem l5_eq (s : List UInt8) (v : List UInt8 × List UInt8 × Bool) (op fuel : Nat) : ∀ (k i : Nat), M.ref55_Parse_l5 fuel s v op k i = M.ref55_Parse_l2 fuel s v ([], [], false) op k i
  | 0, _ => rfl
  | k + 1, i => by
    rw [M.ref55_Parse_l5, M.ref55_Parse_l2, l5_eq s v op fuel k (i + 1), l6_eq]
theorem l4_eq (s : List UInt8) (v : List UInt8 × List UInt8 × Bool) (fuel : Nat) : ∀ (k i : Nat), M.ref55_Parse_l4 fuel s v k i = M.ref55_Parse_l1 fuel s v ([], [], false) k i
  | 0, _ => rfl
  | k + 1, i => by
    rw [M.ref55_Parse_l4, M.ref55_Parse_l1, l4_eq s v fuel k (i + 1), l5_eq]
theorem bits_ex (a b : Bool) : ∃ n : Nat, n < 4 ∧ eqI (andI .i64 (n : Int) 1) 1 = a ∧ eqI (andI .i64 (n : Int) 2) 2 = b := by
  cases a <;> cases b
  · exact ⟨0, by decide, by kernel_rfl, by kernel_rfl⟩
  · exact ⟨2, by decide, by kernel_rfl, by kernel_rfl⟩
  · exact ⟨1, by decide, by kernel_rfl, by kernel_rfl⟩
  · exact ⟨3, by decide, by kernel_rfl, by kernel_rfl⟩
theorem cand_of {y : Api.Step} (hv : vst y = true) (o : List UInt8) (ho : y.Reason.Op = 4 → o = y.Reason.Unit) : ∃ p b j : Nat, p ≤ 4 ∧ b < 4 ∧ j ≤ 30 ∧ cand y.Unit o p b j = y := by
  obtain ⟨h1, h2, h3, h4⟩ := vst_iff hv
  obtain ⟨b, b1, b2, b3⟩ := bits_ex y.Compiled y.Same
  refine ⟨y.Reason.Op.toNat, b, y.Code.toNat, by omega, b1, by omega, ?_⟩
  obtain ⟨u, ⟨op, ru⟩, c, co, sa⟩ := y
  dsimp only at h2 h3 h4 b2 b3 ho ⊢
  unfold cand
  rw [b2, b3]
  have e1 : ((op.toNat : Nat) : Int) = op := by omega
  have e2 : ((co.toNat : Nat) : Int) = co := by omega
  rw [e1, e2]
  by_cases h : op = 4
  · rw [if_pos (by omega), ho h]
  · rw [if_neg (by omega)]
    rw [if_neg h] at h4
    rw [h4]
theorem RParse_M (s : List UInt8) (hs : s.length ≤ 16384) {fuel : Nat} (hf : s.length + 100 ≤ fuel) : ∃ r, M.ref55_Parse fuel s = some r ∧ PSpec s r := by
  rw [M.ref55_Parse, if_neg (show ¬ ltI 16384 (s.length : Int) = true from fun h => by have := ltT h; omega), rsplit_M s 58 [32] (by omega) (by decide) (by omega)]
  simp only [obind]
  have hcut : ∀ y, vst y = true → txt y = s → Lib.cut s [58, 32] = (y.Unit, rest y, true) := fun y hy e => by rw [← e]; exact cut_txt hy
  have hcl : (Lib.cut s [58, 32]).2.1.length ≤ s.length := by
    unfold Lib.cut
    split
    · show (s.drop _).length ≤ _; rw [List.length_drop]; omega
    · exact Nat.zero_le _
  generalize Lib.cut s [58, 32] = v at hcut hcl
  cases hv2 : v.2.2
  · refine ⟨_, rfl, .inr ⟨fun y hy e => ?_, rfl⟩⟩
    rw [hcut y hy e] at hv2; cases hv2
  simp only [Bool.not_true, Bool.false_eq_true, if_false]
  have hbef : M.ref55_split fuel v.2.1 BEF = some (Lib.cut v.2.1 BEF) := rsplit_M v.2.1 116 _ (by omega) (by decide) (by omega)
  change ∃ r, ((M.ref55_split fuel v.2.1 BEF).bind _) = some r ∧ _
  rw [hbef]
  simp only [obind]
  have hc4 : ∀ y, vst y = true → txt y = s → y.Reason.Op = 4 → Lib.cut v.2.1 BEF = ([], y.Reason.Unit ++ AFT ++ ([59, 32] ++ (cmp y.Compiled ++ [59, 32] ++ (sme y.Same ++ [59, 32] ++ errT y.Code))), true) := fun y hy e h4 => by
    rw [hcut y hy e]
    have hr : rest y = ([] : List UInt8) ++ (116 :: [104, 101, 32, 105, 110, 116, 101, 114, 102, 97, 99, 101, 32, 111, 102, 32]) ++ (y.Reason.Unit ++ AFT ++ ([59, 32] ++ (cmp y.Compiled ++ [59, 32] ++ (sme y.Same ++ [59, 32] ++ errT y.Code)))) := by
      unfold rest rsn
      rw [h4]
      simp [BEF]
    show Lib.cut (rest y) BEF = _
    rw [hr]
    exact cut_part 116 _ _ [] (by simp)
  have hwl : (Lib.cut v.2.1 BEF).2.1.length ≤ v.2.1.length := by
    unfold Lib.cut
    split
    · show (v.2.1.drop _).length ≤ _; rw [List.length_drop]; omega
    · exact Nat.zero_le _
  generalize Lib.cut v.2.1 BEF = w at hc4 hwl
  have fin : ∀ (o : List UInt8) (d : List UInt8 × Bool), (∀ y, vst y = true → txt y = s → y.Reason.Op = 4 → o = y.Reason.Unit) → ∃ r, ((M.ref55_Parse_l1 fuel s v (o, d) fuel 0).bind fun z => Sum.elim some (fun _ => some (zero, (3 : Int))) z) = some r ∧ PSpec s r := fun o d ho => by
    obtain ⟨q, q1, q2⟩ := l1_M s v (o, d) (fuel := fuel) (by omega) 5 0 fuel (by omega) (by omega)
    rw [q1]
    simp only [obind]
    rcases q2 with ⟨x, rfl, x1, x2⟩ | ⟨rfl, q3⟩
    · exact ⟨_, rfl, .inl ⟨x, x1, x2, rfl⟩⟩
    · refine ⟨_, rfl, .inr ⟨fun y hy e => ?_, rfl⟩⟩
      obtain ⟨p, b, j, p1, b1, j1, hc⟩ := cand_of hy o (ho y hy e)
      have hu : v.1 = y.Unit := by rw [hcut y hy e]
      refine q3 p (Nat.zero_le _) p1 b b1 j j1 ?_
      rw [hu]
      show vst (cand y.Unit o p b j) = true ∧ txt (cand y.Unit o p b j) = s
      rw [hc]
      exact ⟨hy, e⟩
  cases hw : (w.2.2 && eqS w.1 ([] : List UInt8))
  · simp only [Bool.false_eq_true, if_false]
    rw [l4_eq]
    refine fin [] ([], false) fun y hy e h4 => ?_
    rw [hc4 y hy e h4] at hw
    cases hw
  · simp only [if_true]
    have haft : M.ref55_split fuel w.2.1 AFT = some (Lib.cut w.2.1 AFT) := rsplit_M w.2.1 32 _ (by omega) (by decide) (by omega)
    change ∃ r, ((M.ref55_split fuel w.2.1 AFT).bind _) = some r ∧ _
    rw [haft]
    simp only [obind]
    refine fin (Lib.cut w.2.1 AFT).1 (Lib.cut w.2.1 AFT).2 fun y hy e h4 => ?_
    rw [hc4 y hy e h4]
    have hup : upS y.Reason.Unit = true := by
      have := (vst_iff hy).2.2.2
      rwa [if_pos h4] at this
    have := cut_part 32 [104, 97, 115, 32, 99, 104, 97, 110, 103, 101, 100] ([59, 32] ++ (cmp y.Compiled ++ [59, 32] ++ (sme y.Same ++ [59, 32] ++ errT y.Code))) y.Reason.Unit (upS_not hup i32)
    show (Lib.cut (y.Reason.Unit ++ AFT ++ _) AFT).1 = _
    exact congrArg Prod.fst this
end Go.Proofs.YtlhikhaailhoaaaDoor
set_option linter.unusedVariables false
set_option linter.unusedSimpArgs false
set_option maxRecDepth 100000
namespace Go.Proofs.YtlhikhaailhoaaaDoor
open Go Go.Abs
theorem awake_M {fuel : Nat} (h : 100 ≤ fuel) : M.law55_awake fuel = some true := by
  obtain ⟨g, rfl⟩ : ∃ g, fuel = g + 100 := ⟨fuel - 100, by omega⟩
  kernel_rfl
theorem eqStep (x : Api.Step) : ((eqS x.Unit x.Unit) && (((eqI x.Reason.Op x.Reason.Op) && (eqS x.Reason.Unit x.Reason.Unit)) && ((eqB x.Compiled x.Compiled) && ((eqI x.Code x.Code) && (eqB x.Same x.Same))))) = true := by
  have hB : ∀ b : Bool, eqB b b = true := fun b => by cases b <;> rfl
  rw [hB, hB]
  simp [eqS, eqI]
theorem Parses_M (s : List UInt8) (n : Int) {fuel : Nat} (hf : 20000 ≤ fuel) : M.law55_ExplainParses fuel s n = some true := by
  rw [M.law55_ExplainParses, awake_M (by omega)]
  simp only [obind, Bool.not_true, Bool.false_eq_true, if_false]
  have fin : ∀ r : Api.Step × Int, M.explain_Parse fuel s = some r → M.ref55_Parse fuel s = some r →
      ((M.explain_Parse fuel s).bind fun v17 =>
      (M.ref55_Parse fuel s).bind fun v19 =>
      (if (eqS v17.1.Unit v19.1.Unit) && (((eqI v17.1.Reason.Op v19.1.Reason.Op) && (eqS v17.1.Reason.Unit v19.1.Reason.Unit)) && ((eqB v17.1.Compiled v19.1.Compiled) && ((eqI v17.1.Code v19.1.Code) && (eqB v17.1.Same v19.1.Same)))) then
        if eqI v17.2 v19.2 then
          (M.explain_Error n).bind fun v24 =>
          (M.ref55_Error n).bind fun v26 =>
          some (eqS v24 v26)
        else
          some false
      else
        some false : Option Bool).bind fun b29 =>
      some b29) = some true := fun r h1 h2 => by
    rw [h1, h2]
    simp only [obind]
    rw [if_pos (eqStep r.1), if_pos (show eqI r.2 r.2 = true from decide_eq_true rfl), Error_M, RError_M]
    simp only [obind]
    rw [show eqS (errT n) (errT n) = true from decide_eq_true rfl]
  by_cases h1 : s.length ≤ 300
  · rw [show ltI 300 (s.length : Int) = false from decide_eq_false (by omega)]
    simp only [Bool.false_eq_true, if_false]
    rw [if_neg (show ¬ ltI 16394 (s.length : Int) = true from fun h => by have := ltT h; omega)]
    obtain ⟨r, r1, r2⟩ := Parse_M s (by omega) (fuel := fuel) (by omega)
    obtain ⟨q, q1, q2⟩ := RParse_M s (by omega) (fuel := fuel) (by omega)
    have := r2.det q2
    subst this
    exact fin r r1 q1
  · rw [show ltI 300 (s.length : Int) = true from decide_eq_true (by omega)]
    simp only [if_true]
    by_cases h2 : s.length ≤ 16384
    · rw [show leI (s.length : Int) 16384 = true from decide_eq_true (by omega)]; rfl
    · rw [show leI (s.length : Int) 16384 = false from decide_eq_false (by omega)]
      by_cases h3 : 16394 < s.length
      · rw [show ltI 16394 (s.length : Int) = true from decide_eq_true (by omega)]; rfl
      · rw [show ltI 16394 (s.length : Int) = false from decide_eq_false (by omega)]
        simp only [Bool.or_self, Bool.false_eq_true, if_false]
        refine fin (zero, 5) ?_ ?_
        · rw [M.explain_Parse, if_pos (show ltI 16384 (s.length : Int) = true from decide_eq_true (by omega))]; rfl
        · rw [M.ref55_Parse, if_pos (show ltI 16384 (s.length : Int) = true from decide_eq_true (by omega))]; rfl
theorem ExplainParses_true (s : List UInt8) (n : Int) (_ : s.length ≤ 140737488351232) (_ : Rng .i64 n) : ∃ fuel, M.law55_ExplainParses fuel s n = some true := ⟨20000, Parses_M s n (by omega)⟩
theorem eqSt_dec (x y : Api.Step) : ((eqS x.Unit y.Unit) && (((eqI x.Reason.Op y.Reason.Op) && (eqS x.Reason.Unit y.Reason.Unit)) && ((eqB x.Compiled y.Compiled) && ((eqI x.Code y.Code) && (eqB x.Same y.Same))))) = true ↔ x = y := by
  constructor
  · intro h
    simp only [Bool.and_eq_true] at h
    obtain ⟨h1, ⟨h2, h3⟩, h4, h5, h6⟩ := h
    obtain ⟨u, ⟨op, ru⟩, c, co, sa⟩ := x
    obtain ⟨u', ⟨op', ru'⟩, c', co', sa'⟩ := y
    dsimp only at h1 h2 h3 h4 h5 h6
    have a1 : u = u' := of_decide_eq_true h1
    have a2 := eqT h2
    have a3 : ru = ru' := of_decide_eq_true h3
    have a4 : c = c' := by unfold eqB at h4; exact beq_iff_eq.1 h4
    have a5 := eqT h5
    have a6 : sa = sa' := by unfold eqB at h6; exact beq_iff_eq.1 h6
    rw [a1, a2, a3, a4, a5, a6]
  · rintro rfl
    exact eqStep x
theorem no10_txt {x : Api.Step} (hv : vst x = true) : (10 : UInt8) ∉ txt x := by
  have h0 := upS_not (vst_iff hv).1 i10
  have h1 : (10 : UInt8) ∉ rsn x.Reason := (rsn_ok hv).2.2 10 i10 (by decide) (by decide) (by decide) (by decide) (by decide) (by decide)
  have h2 : (10 : UInt8) ∉ cmp x.Compiled := by cases x.Compiled <;> decide
  have h3 : (10 : UInt8) ∉ sme x.Same := by cases x.Same <;> decide
  have h4 := (errT_ok x.Code).2.2
  unfold txt rest
  simp only [List.mem_append, List.mem_cons, List.not_mem_nil, or_false]
  rintro ((h | h | h) | (h | h | h) | (h | h | h) | (h | h | h) | h)
  · exact h0 h
  · exact absurd h (by decide)
  · exact absurd h (by decide)
  · exact h1 h
  · exact absurd h (by decide)
  · exact absurd h (by decide)
  · exact h2 h
  · exact absurd h (by decide)
  · exact absurd h (by decide)
  · exact h3 h
  · exact absurd h (by decide)
  · exact absurd h (by decide)
  · exact h4 h
theorem indexByte_not {c : UInt8} : ∀ {l : List UInt8}, c ∉ l → Lib.indexByte l c = -1
  | [], _ => rfl
  | b :: l, h => by
    have h1 : ¬ b = c := fun e => h (by rw [e]; exact List.mem_cons_self ..)
    have h2 := indexByte_not (l := l) (fun e => h (List.mem_cons_of_mem _ e))
    simp [Lib.indexByte, h1, h2]
theorem Back_M (a b : Api.Step) {fuel : Nat} (hf : 1000 ≤ fuel) : M.law55_ExplainBack fuel a b = some true := by
  rw [M.law55_ExplainBack, awake_M (by omega)]
  simp only [obind, Bool.not_true, Bool.false_eq_true, if_false, M.law55_short]
  cases ha : ((leI (a.Unit.length : Int) 60) && (leI (a.Reason.Unit.length : Int) 60))
  · rfl
  cases hb : ((leI (b.Unit.length : Int) 60) && (leI (b.Reason.Unit.length : Int) 60))
  · rfl
  simp only [Bool.not_true, Bool.false_eq_true, if_false, obind]
  rw [Step_M a (by omega), Step_M b (by omega)]
  simp only [obind]
  by_cases hva : vst a = true
  · rw [if_pos hva]
    by_cases hvb : vst b = true
    · rw [if_pos hvb]
      have e0 : eqI 0 0 = true := rfl
      simp only [e0, Bool.not_true, Bool.or_self, Bool.false_eq_true, if_false, Parse_txt hva (show 100 ≤ fuel by omega), obind, if_true]
      rw [if_pos (eqStep a)]
      have e1 : eqB (eqS (txt a) (txt b)) ((eqS a.Unit b.Unit) && (((eqI a.Reason.Op b.Reason.Op) && (eqS a.Reason.Unit b.Reason.Unit)) && ((eqB a.Compiled b.Compiled) && ((eqI a.Code b.Code) && (eqB a.Same b.Same))))) = true := by
        have hB : ∀ p q : Bool, (p = true ↔ q = true) → eqB p q = true := fun p q h => by cases p <;> cases q <;> simp_all [eqB]
        refine hB _ _ ?_
        rw [eqSt_dec]
        constructor
        · intro h; exact txt_inj hva hvb (of_decide_eq_true h)
        · rintro rfl; exact decide_eq_true rfl
      rw [if_pos e1, M.strings_Contains, indexByte_not (no10_txt hva)]
      rfl
    · rw [if_neg hvb]; rfl
  · rw [if_neg hva]
    by_cases hvb : vst b = true
    · rw [if_pos hvb]; rfl
    · rw [if_neg hvb]; rfl
theorem ExplainBack_true (a b : Api.Step) : ∃ fuel, M.law55_ExplainBack fuel a b = some true := ⟨1000, Back_M a b (by omega)⟩
theorem anyShort_loop (l : List Api.Step) : ∀ (n i k : Nat), i + n = l.length → n + 1 ≤ k → ∃ o, M.slices_IndexFunc_api_Step_ExplainSteps_1_l1 l k i = some o := by
  intro n
  induction n with
  | zero =>
    intro i k hi hk
    obtain ⟨g, rfl⟩ : ∃ g, k = g + 1 := ⟨k - 1, by omega⟩
    rw [M.slices_IndexFunc_api_Step_ExplainSteps_1_l1, if_neg (show ¬ ltI (i : Int) (l.length : Int) = true from fun h => by have := ltT h; omega)]
    exact ⟨_, rfl⟩
  | succ n ih =>
    intro i k hi hk
    obtain ⟨g, rfl⟩ : ∃ g, k = g + 1 := ⟨k - 1, by omega⟩
    have hx : l[i]? = some l[i] := List.getElem?_eq_getElem (by omega)
    rw [M.slices_IndexFunc_api_Step_ExplainSteps_1_l1, if_pos (show ltI (i : Int) (l.length : Int) = true from decide_eq_true (by omega)), hx]
    simp only [obind, M.law55_ExplainSteps_1, M.law55_short]
    split
    · exact ⟨_, rfl⟩
    · exact ih (i + 1) g (by omega) (by omega)
theorem anyShort_ex (l : List Api.Step) {fuel : Nat} (hf : l.length + 1 ≤ fuel) : ∃ b, M.slices_ContainsFunc_api_Step_ExplainSteps_1 fuel l = some b := by
  obtain ⟨o, ho⟩ := anyShort_loop l l.length 0 fuel (by omega) hf
  rw [M.slices_ContainsFunc_api_Step_ExplainSteps_1, M.slices_IndexFunc_api_Step_ExplainSteps_1, ho]
  cases o with
  | inl z => exact ⟨_, rfl⟩
  | inr z => exact ⟨_, rfl⟩
theorem anyBad_loop (l : List Api.Step) {fuel : Nat} (hf : 30 ≤ fuel) : ∀ (n i k : Nat), i + n = l.length → n + 1 ≤ k → ∃ o, M.slices_IndexFunc_api_Step_Steps_1_l1 fuel l k i = some o ∧ (((l.drop i).all vst = true ∧ o = .inr ()) ∨ ((l.drop i).all vst = false ∧ ∃ j : Nat, o = .inl (j : Int))) := by
  intro n
  induction n with
  | zero =>
    intro i k hi hk
    obtain ⟨g, rfl⟩ : ∃ g, k = g + 1 := ⟨k - 1, by omega⟩
    rw [M.slices_IndexFunc_api_Step_Steps_1_l1, if_neg (show ¬ ltI (i : Int) (l.length : Int) = true from fun h => by have := ltT h; omega), List.drop_eq_nil_of_le (by omega)]
    exact ⟨_, rfl, .inl ⟨rfl, rfl⟩⟩
  | succ n ih =>
    intro i k hi hk
    obtain ⟨g, rfl⟩ : ∃ g, k = g + 1 := ⟨k - 1, by omega⟩
    have hx : l[i]? = some l[i] := List.getElem?_eq_getElem (by omega)
    rw [M.slices_IndexFunc_api_Step_Steps_1_l1, if_pos (show ltI (i : Int) (l.length : Int) = true from decide_eq_true (by omega)), hx, List.drop_eq_getElem_cons (by omega), List.all_cons]
    generalize l[i] = x
    simp only [obind, M.explain_Steps_1, valid_M x hf]
    cases vst x
    · exact ⟨_, rfl, .inr ⟨rfl, i, rfl⟩⟩
    · simp only [Bool.not_true, Bool.false_eq_true, if_false, Bool.true_and]
      exact ih (i + 1) g (by omega) (by omega)
theorem anyBad_M (l : List Api.Step) {fuel : Nat} (hf : l.length + 31 ≤ fuel) : M.slices_ContainsFunc_api_Step_Steps_1 fuel l = some (!l.all vst) := by
  obtain ⟨o, ho, h⟩ := anyBad_loop l (fuel := fuel) (by omega) l.length 0 fuel (by omega) (by omega)
  rw [M.slices_ContainsFunc_api_Step_Steps_1, M.slices_IndexFunc_api_Step_Steps_1, ho]
  rw [List.drop_zero] at h
  rcases h with ⟨h, rfl⟩ | ⟨h, j, rfl⟩
  · rw [h]; rfl
  · rw [h]
    simp only [obind, Sum.elim_inl]
    rw [show leI 0 (j : Int) = true from decide_eq_true (by omega)]; rfl
theorem bad_loop (l : List Api.Step) {fuel : Nat} (hf : 30 ≤ fuel) : ∀ (n i k : Nat), i + n = l.length → n + 1 ≤ k → M.ref55_Steps_l1 fuel l k i = some (if (l.drop i).all vst = true then .inr () else .inl ([], 1)) := by
  intro n
  induction n with
  | zero =>
    intro i k hi hk
    obtain ⟨g, rfl⟩ : ∃ g, k = g + 1 := ⟨k - 1, by omega⟩
    rw [M.ref55_Steps_l1, if_neg (show ¬ ltI (i : Int) (l.length : Int) = true from fun h => by have := ltT h; omega), List.drop_eq_nil_of_le (by omega)]
    rfl
  | succ n ih =>
    intro i k hi hk
    obtain ⟨g, rfl⟩ : ∃ g, k = g + 1 := ⟨k - 1, by omega⟩
    have hx : l[i]? = some l[i] := List.getElem?_eq_getElem (by omega)
    rw [M.ref55_Steps_l1, if_pos (show ltI (i : Int) (l.length : Int) = true from decide_eq_true (by omega)), hx, List.drop_eq_getElem_cons (by omega), List.all_cons]
    generalize l[i] = x
    simp only [obind, Valid_M x hf]
    cases vst x
    · rfl
    · simp only [Bool.not_true, Bool.false_eq_true, if_false, Bool.true_and]
      exact ih (i + 1) g (by omega) (by omega)
def lns (l : List Api.Step) : List UInt8 := l.flatMap fun x => txt x ++ [10]
theorem lns_cons (x : Api.Step) (l : List Api.Step) : lns (x :: l) = txt x ++ [10] ++ lns l := rfl
theorem build_loop (l : List Api.Step) (hl : l.length ≤ 1000) (hv : l.all vst = true) {fuel : Nat} (hf : 30 ≤ fuel) : ∀ (n i k : Nat) (b : List UInt8), i + n = l.length → n + 1 ≤ k → b.length ≤ 300 * i → M.explain_Steps_l1 fuel l k b i = some (b ++ lns (l.drop i)) := by
  intro n
  induction n with
  | zero =>
    intro i k b hi hk hb
    obtain ⟨g, rfl⟩ : ∃ g, k = g + 1 := ⟨k - 1, by omega⟩
    rw [M.explain_Steps_l1, if_neg (show ¬ ltI (i : Int) (l.length : Int) = true from fun h => by have := ltT h; omega), List.drop_eq_nil_of_le (by omega)]
    simp [lns]
  | succ n ih =>
    intro i k b hi hk hb
    obtain ⟨g, rfl⟩ : ∃ g, k = g + 1 := ⟨k - 1, by omega⟩
    have hx : l[i]? = some l[i] := List.getElem?_eq_getElem (by omega)
    have hvx : vst l[i] = true := List.all_eq_true.1 hv _ (List.getElem_mem (by omega))
    rw [M.explain_Steps_l1, if_pos (show ltI (i : Int) (l.length : Int) = true from decide_eq_true (by omega)), hx, List.drop_eq_getElem_cons (by omega), lns_cons]
    generalize l[i] = x at hvx
    have hx2 := txt_len hvx
    simp only [obind, Step_M x hf, if_pos hvx]
    rw [cat1 (by simp; omega)]
    simp only [obind, M.strings_Builder_WriteString, M.strings_Builder_copyCheck]
    rw [app1 (by simp; omega)]
    simp only [obind]
    rw [ih (i + 1) g _ (by omega) (by omega) (by simp; omega)]
    simp
theorem Rbuild_loop (l : List Api.Step) (hl : l.length ≤ 1000) (hv : l.all vst = true) : ∀ (n i k : Nat) (b : List UInt8), i + n = l.length → n + 1 ≤ k → b.length ≤ 300 * i → M.ref55_Steps_l2 l k b i = some (b ++ lns (l.drop i)) := by
  intro n
  induction n with
  | zero =>
    intro i k b hi hk hb
    obtain ⟨g, rfl⟩ : ∃ g, k = g + 1 := ⟨k - 1, by omega⟩
    rw [M.ref55_Steps_l2, if_neg (show ¬ ltI (i : Int) (l.length : Int) = true from fun h => by have := ltT h; omega), List.drop_eq_nil_of_le (by omega)]
    simp [lns]
  | succ n ih =>
    intro i k b hi hk hb
    obtain ⟨g, rfl⟩ : ∃ g, k = g + 1 := ⟨k - 1, by omega⟩
    have hx : l[i]? = some l[i] := List.getElem?_eq_getElem (by omega)
    have hvx : vst l[i] = true := List.all_eq_true.1 hv _ (List.getElem_mem (by omega))
    rw [M.ref55_Steps_l2, if_pos (show ltI (i : Int) (l.length : Int) = true from decide_eq_true (by omega)), hx, List.drop_eq_getElem_cons (by omega), lns_cons]
    generalize l[i] = x at hvx
    have hx2 := txt_len hvx
    simp only [obind, Text_M hvx]
    rw [app1 (by omega)]
    simp only [obind]
    rw [app1 (by simp; omega)]
    simp only [obind]
    rw [ih (i + 1) g _ (by omega) (by omega) (by simp; omega)]
    simp
theorem Steps_M (l : List Api.Step) (hl : l.length ≤ 1005) {fuel : Nat} (hf : 2000 ≤ fuel) : M.explain_Steps fuel l = M.ref55_Steps fuel l ∧ ∃ r, M.explain_Steps fuel l = some r := by
  rw [M.explain_Steps, M.ref55_Steps, anyBad_M l (by omega), bad_loop l (by omega) l.length 0 fuel (by omega) (by omega), List.drop_zero]
  simp only [obind]
  cases hv : l.all vst
  · exact ⟨rfl, _, rfl⟩
  simp only [Bool.not_true, Bool.false_eq_true, if_false, if_true, Sum.elim_inr]
  by_cases h1 : 1000 < l.length
  · have hq : ltI 1000 (l.length : Int) = true := decide_eq_true (by omega)
    rw [if_pos hq, if_pos hq]
    exact ⟨rfl, _, rfl⟩
  · have hq : ¬ ltI 1000 (l.length : Int) = true := fun h => by have := ltT h; omega
    rw [if_neg hq, if_neg hq, build_loop l (by omega) hv (by omega) l.length 0 fuel [] (by omega) (by omega) (by simp), Rbuild_loop l (by omega) hv l.length 0 fuel [] (by omega) (by omega) (by simp)]
    simp only [obind, M.strings_Builder_Len, M.strings_Builder_String]
    refine ⟨by first | rfl | trivial, ?_⟩
    split
    · exact ⟨_, rfl⟩
    · exact ⟨_, rfl⟩
theorem each_loop (l : List Api.Step) {fuel : Nat} (hf : 30 ≤ fuel) : ∀ (n i k : Nat), i + n = l.length → n + 1 ≤ k → M.law55_ExplainSteps_l1 fuel l k i = some (.inr ()) := by
  intro n
  induction n with
  | zero =>
    intro i k hi hk
    obtain ⟨g, rfl⟩ : ∃ g, k = g + 1 := ⟨k - 1, by omega⟩
    rw [M.law55_ExplainSteps_l1, if_neg (show ¬ ltI (i : Int) (l.length : Int) = true from fun h => by have := ltT h; omega)]
  | succ n ih =>
    intro i k hi hk
    obtain ⟨g, rfl⟩ : ∃ g, k = g + 1 := ⟨k - 1, by omega⟩
    have hx : l[i]? = some l[i] := List.getElem?_eq_getElem (by omega)
    rw [M.law55_ExplainSteps_l1, if_pos (show ltI (i : Int) (l.length : Int) = true from decide_eq_true (by omega)), hx]
    generalize l[i] = x
    simp only [obind, Step_M x hf, Valid_M x hf]
    have h2 := ih (i + 1) g (by omega) (by omega)
    cases hv : vst x
    · have e1 : eqS ([] : List UInt8) [] = true := rfl
      have e2 : eqI 1 1 = true := rfl
      simp only [Bool.false_eq_true, if_false, Bool.not_false, if_true, e1, e2, Bool.not_true, Bool.or_self]
      exact h2
    · have e1 : eqS (txt x) (txt x) = true := decide_eq_true rfl
      have e2 : eqI 0 0 = true := rfl
      simp only [if_true, Bool.not_true, Bool.false_eq_true, if_false, Text_M hv, obind, e1, e2]
      exact h2
theorem ESteps_M (l : List Api.Step) {fuel : Nat} (hf : 3000 ≤ fuel) : M.law55_ExplainSteps fuel l = some true := by
  rw [M.law55_ExplainSteps, awake_M (by omega)]
  simp only [obind, Bool.not_true, Bool.false_eq_true, if_false]
  by_cases h5 : 1005 < l.length
  · rw [show ltI 300 (l.length : Int) = true from decide_eq_true (by omega), show leI (l.length : Int) 1000 = false from decide_eq_false (by omega), show ltI 1005 (l.length : Int) = true from decide_eq_true (by omega)]
    rfl
  obtain ⟨b, hb⟩ := anyShort_ex l (fuel := fuel) (by omega)
  rw [hb, show ltI 1005 (l.length : Int) = false from decide_eq_false (by omega)]
  have hcond : ∃ b', (if ltI 300 (l.length : Int) = true then if leI (l.length : Int) 1000 = true then some true else if false = true then some true else (some b).bind fun v => some v else if false = true then some true else (some b).bind fun v => some v) = some b' := by
    split
    · split
      · exact ⟨_, rfl⟩
      · exact ⟨_, rfl⟩
    · exact ⟨_, rfl⟩
  obtain ⟨b', hb'⟩ := hcond
  rw [hb']
  simp only [obind]
  cases b'
  case true => rfl
  simp only [Bool.false_eq_true, if_false]
  obtain ⟨s1, r, s2⟩ := Steps_M l (by omega) (fuel := fuel) (by omega)
  rw [← s1, s2]
  simp only [obind]
  rw [show eqS r.1 r.1 = true from decide_eq_true rfl, show eqI r.2 r.2 = true from decide_eq_true rfl]
  simp only [Bool.not_true, Bool.or_self, Bool.false_eq_true, if_false]
  have hm : ∃ m : Nat, minI (l.length : Int) 20 = m ∧ m ≤ l.length := by
    unfold minI
    split
    · exact ⟨20, rfl, by omega⟩
    · exact ⟨l.length, rfl, Nat.le_refl _⟩
  obtain ⟨m, m1, m2⟩ := hm
  rw [m1, subT l m m2]
  simp only [obind]
  rw [each_loop (l.take m) (by omega) (l.take m).length 0 fuel (by omega) (by rw [List.length_take]; omega)]
  rfl
theorem ExplainSteps_true (l : List Api.Step) (_ : l.length * 64 ≤ 140737488351232 ∧ ∀ x ∈ l, True) : ∃ fuel, M.law55_ExplainSteps fuel l = some true := ⟨3000, ESteps_M l (by omega)⟩
end Go.Proofs.YtlhikhaailhoaaaDoor
