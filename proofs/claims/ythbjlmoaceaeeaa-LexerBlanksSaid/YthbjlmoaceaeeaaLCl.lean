/- For every input the law LexerBlanks returns true. Part 12 of 15. No condition. -/
import Derived.Test.YthbjlmoaceaeeaaLCk
import Derived.Lib.IndexLaws
set_option linter.unusedVariables false
set_option linter.unusedSimpArgs false
namespace Go.Proofs.Ythbjlmoaceaeeaa
open Go Go.Abs
def kt (t : Api.Token) : Int × List UInt8 := (t.Kind, t.Text)
theorem SameF_loop (l l' : List Api.Token) (h : l.map kt = l'.map kt) : ∀ (n i k : Nat), i + n = l.length → n + 1 ≤ k → M.ref02_Same_l1 l l' false k i = some (.inr ()) := by
  intro n
  induction n with
  | zero =>
    intro i k hi hk
    obtain ⟨g, rfl⟩ : ∃ g, k = g + 1 := ⟨k - 1, by omega⟩
    rw [M.ref02_Same_l1, if_neg (show ¬ ltI (i : Int) (l.length : Int) = true from fun h => by have := ltT h; omega)]
  | succ n ih =>
    intro i k hi hk
    obtain ⟨g, rfl⟩ : ∃ g, k = g + 1 := ⟨k - 1, by omega⟩
    have hll : l.length = l'.length := by have := congrArg List.length h; simpa using this
    have hx : l[i]? = some l[i] := List.getElem?_eq_getElem (by omega)
    have hy : l'[i]? = some l'[i] := List.getElem?_eq_getElem (by omega)
    have he : kt l[i] = kt l'[i] := by
      have := congrArg (fun z => z[i]?) h
      simp only [List.getElem?_map, hx, hy, Option.map_some, Option.some.injEq] at this
      exact this
    generalize l[i] = t at hx he
    generalize l'[i] = t' at hy he
    simp only [kt, Prod.mk.injEq] at he
    have r1 : eqI t.Kind t'.Kind = true := decide_eq_true he.1
    have r2 : eqS t.Text t'.Text = true := decide_eq_true he.2
    rw [M.ref02_Same_l1, if_pos (show ltI (i : Int) (l.length : Int) = true from decide_eq_true (by omega)), hx, hy]
    simp only [obind, r1, r2, Bool.not_true, Bool.false_eq_true, if_false]
    exact ih (i + 1) g (by omega) (by omega)
theorem SameF_M (l l' : List Api.Token) (h : l.map kt = l'.map kt) {fuel : Nat} (hf : l.length + 1 ≤ fuel) : M.ref02_Same fuel l l' false = some true := by
  have hll : l.length = l'.length := by have := congrArg List.length h; simpa using this
  rw [M.ref02_Same, show eqI (l.length : Int) (l'.length : Int) = true from decide_eq_true (by omega), SameF_loop l l' h l.length 0 fuel (by omega) hf]
  rfl
theorem Concat2 (A B : List Api.Token) {fuel : Nat} (hf : 3 ≤ fuel) (hl : A.length + B.length ≤ 100000) : M.slices_Concat_api_Token fuel [A, B] = some (A ++ B) := by
  obtain ⟨g, rfl⟩ : ∃ g, fuel = g + 1 + 1 + 1 := ⟨fuel - 3, by omega⟩
  have t0 : ltI ((0 : Nat) : Int) (([A, B] : List (List Api.Token)).length : Int) = true := rfl
  have t1 : ltI ((0 + 1 : Nat) : Int) (([A, B] : List (List Api.Token)).length : Int) = true := rfl
  have t2 : ltI ((0 + 1 + 1 : Nat) : Int) (([A, B] : List (List Api.Token)).length : Int) = false := rfl
  rw [M.slices_Concat_api_Token, M.slices_Concat_api_Token_l1, t0]
  simp only [if_true, List.getElem?_cons_zero, obind]
  rw [chk64 (by omega) (by omega)]
  simp only [obind]
  rw [if_neg (show ¬ ltI (0 + (A.length : Int)) 0 = true from fun h => by have := ltT h; omega), M.slices_Concat_api_Token_l1, t1]
  simp only [if_true, List.getElem?_cons_zero, List.getElem?_cons_succ, Nat.zero_add, obind]
  rw [chk64 (by omega) (by omega)]
  simp only [obind]
  rw [if_neg (show ¬ ltI (0 + (A.length : Int) + (B.length : Int)) 0 = true from fun h => by have := ltT h; omega), M.slices_Concat_api_Token_l1, show ltI ((1 + 1 : Nat) : Int) (([A, B] : List (List Api.Token)).length : Int) = false from t2]
  simp only [Bool.false_eq_true, if_false, obind]
  rw [growC, if_pos ⟨by omega, by omega⟩]
  simp only [obind]
  rw [M.slices_Concat_api_Token_l2, t0]
  simp only [if_true, List.getElem?_cons_zero, obind]
  rw [app_some (by decide) (by simp; omega)]
  simp only [obind]
  rw [M.slices_Concat_api_Token_l2, t1]
  simp only [if_true, List.getElem?_cons_zero, List.getElem?_cons_succ, Nat.zero_add, obind]
  rw [app_some (by decide) (by simp; omega)]
  simp only [obind]
  rw [M.slices_Concat_api_Token_l2, show ltI ((1 + 1 : Nat) : Int) (([A, B] : List (List Api.Token)).length : Int) = false from t2]
  simp
theorem subTg {α : Type} (s : List α) (n : Nat) (h : n ≤ s.length) : subC s 0 (n : Int) = some (s.take n) := by
  rw [subC, if_pos ⟨by omega, by omega, by omega⟩]
  simp [sub]
theorem Toks.skip {u t : List UInt8} {l : List (Int × List UInt8 × List UInt8)} (h : skp u = skp t) (h2 : Toks t l) : Toks u l := by
  cases h2 with
  | done g => exact .done (h.trans g)
  | next g g1 g2 g3 => exact .next (h.trans g) g1 g2 g3
def BTW : List (List UInt8) := [[32], [10], [9, 10, 32], [32, 40, 42, 42, 41, 32], [40, 42, 32, 97, 32, 40, 42, 32, 34, 98, 32, 42, 41, 32, 39, 32, 42, 41], [40, 42, 42, 42, 41]]
theorem between (x : List UInt8) (hx : x ∈ BTW) (t : List UInt8) : skp (x ++ t) = skp t ∧ bd (x ++ t) ∧ x.length ≤ 20 := by
  simp only [BTW, List.mem_cons, List.not_mem_nil, or_false] at hx
  have b32 : blank 32 = true := rfl
  have b10 : blank 10 = true := rfl
  have b9 : blank 9 = true := rfl
  rcases hx with rfl | rfl | rfl | rfl | rfl | rfl
  · exact ⟨skp_blank b32, .inl rfl, by decide⟩
  · exact ⟨skp_blank b10, .inr (.inr (.inl rfl)), by decide⟩
  · exact ⟨(skp_blank b9).trans ((skp_blank b10).trans (skp_blank b32)), .inr (.inl rfl), by decide⟩
  · refine ⟨(skp_blank b32).trans ?_, .inl rfl, by decide⟩
    have e : cmt 1 (42 :: 41 :: 32 :: t) = some (32 :: t) := by simp [cmt]
    show skp (40 :: 42 :: (42 :: 41 :: 32 :: t)) = _
    rw [skp_cmt, e, obind, skp_blank b32]
  · refine ⟨?_, .inr (.inr (.inr rfl)), by decide⟩
    have e : cmt 1 (32 :: 97 :: 32 :: 40 :: 42 :: 32 :: 34 :: 98 :: 32 :: 42 :: 41 :: 32 :: 39 :: 32 :: 42 :: 41 :: t) = some t := by simp [cmt]
    show skp (40 :: 42 :: (32 :: 97 :: 32 :: 40 :: 42 :: 32 :: 34 :: 98 :: 32 :: 42 :: 41 :: 32 :: 39 :: 32 :: 42 :: 41 :: t)) = _
    rw [skp_cmt, e, obind]
  · refine ⟨?_, .inr (.inr (.inr rfl)), by decide⟩
    have e : cmt 1 (42 :: 42 :: 41 :: t) = some t := by simp [cmt]
    show skp (40 :: 42 :: (42 :: 42 :: 41 :: t)) = _
    rw [skp_cmt, e, obind]
theorem cmt_plain : ∀ s : List UInt8, (∀ c ∈ s, c ≠ 40 ∧ c ≠ 42) → cmt 1 (s ++ [42, 41]) = some []
  | [], _ => by simp [cmt]
  | [c], h => by
    have hc := h c (by simp)
    show cmt 1 (c :: 42 :: [41]) = _
    rw [cmt, if_neg (fun e => hc.1 e.1), if_neg (fun e => hc.2 e.1)]
    simp [cmt]
  | c :: d :: s, h => by
    have hc := h c (by simp)
    show cmt 1 (c :: d :: (s ++ [42, 41])) = _
    rw [cmt, if_neg (fun e => hc.1 e.1), if_neg (fun e => hc.2 e.1)]
    exact cmt_plain (d :: s) (fun x hx => h x (List.mem_cons_of_mem _ hx))
theorem notin {s : List UInt8} {c : UInt8} (h : ¬ 0 ≤ Lib.indexByte s c) : c ∉ s := by
  have h1 := Lib.indexByte_ge s c
  have h2 : Lib.indexByte s c = -1 := by omega
  intro hm
  obtain ⟨k, hk⟩ := List.getElem?_of_mem hm
  exact Lib.indexByte_none h2 k hk
theorem ktMap (s : List UInt8) (l : List (Int × List UInt8 × List UInt8)) : (l.map (tokOf s)).map kt = l.map fun q => (q.1, q.2.1) := by
  rw [List.map_map]; rfl
theorem Blanks_M (s t : List UInt8) (w : UInt8) {fuel : Nat} (hf : 5000 ≤ fuel) : M.law02_LexerBlanks fuel s t w = some true := by
  rw [M.law02_LexerBlanks, awake_M (by omega)]
  simp only [obind, Bool.not_true, Bool.false_eq_true, if_false]
  by_cases hs : 600 < s.length
  · rw [show ltI 600 (s.length : Int) = true from decide_eq_true (by omega)]; rfl
  by_cases ht : 600 < t.length
  · rw [show ltI 600 (t.length : Int) = true from decide_eq_true (by omega), Bool.or_true]; rfl
  rw [show ltI 600 (s.length : Int) = false from decide_eq_false (by omega), show ltI 600 (t.length : Int) = false from decide_eq_false (by omega)]
  simp only [Bool.or_self, Bool.false_eq_true, if_false]
  obtain ⟨A, a1, a2⟩ := tokens_spec s (by omega) (fuel := fuel) (by omega)
  obtain ⟨B, b1, b2⟩ := tokens_spec t (by omega) (fuel := fuel) (by omega)
  rw [a1, b1]
  simp only [obind]
  rcases a2 with ⟨a0, la, aT, aL⟩ | ⟨a0, aL, _⟩
  case inr =>
    have h1 : eqI A.2.2 0 = false := decide_eq_false a0
    rw [h1, aL]; rfl
  rcases b2 with ⟨b0, lb, bT, bL⟩ | ⟨b0, bL, _⟩
  case inr =>
    have h1 : eqI A.2.2 0 = true := decide_eq_true a0
    have h2 : eqI B.2.2 0 = false := decide_eq_false b0
    rw [h1, h2, bL]; rfl
  have h1 : eqI A.2.2 0 = true := decide_eq_true a0
  have h2 : eqI B.2.2 0 = true := decide_eq_true b0
  obtain ⟨la', hla⟩ := aT.last
  obtain ⟨lb', hlb⟩ := bT.last
  have al : A.1.length = la'.length + 1 := by rw [aL, hla]; simp
  have bl : B.1.length = lb'.length + 1 := by rw [bL, hlb]; simp
  have hLa : la'.length ≤ 700 ∧ B.1.length ≤ 700 := by
    have q1 := aT.len (by omega); have q2 := bT.len (by omega)
    rw [hla] at q1; rw [hlb] at q2
    simp at q1 q2
    omega
  have h3 : eqI (A.1.length : Int) 0 = false := decide_eq_false (by omega)
  have h4 : eqI (B.1.length : Int) 0 = false := decide_eq_false (by omega)
  simp only [h1, h2, h3, h4, Bool.not_true, Bool.or_self, Bool.false_eq_true, if_false]
  have hm : Int.tmod (w.toNat : Int) 6 = ((w.toNat % 6 : Nat) : Int) := by rw [Int.tmod_eq_emod_of_nonneg (by omega)]; rfl
  have hidx : ∃ x, idx BTW (Int.tmod (w.toNat : Int) 6) = some x ∧ x ∈ BTW := by
    rw [hm, idxN]
    have : w.toNat % 6 < BTW.length := Nat.mod_lt _ (by decide)
    exact ⟨_, List.getElem?_eq_getElem this, List.getElem_mem _⟩
  obtain ⟨x, x1, x2⟩ := hidx
  obtain ⟨y1, y2, y3⟩ := between x x2 t
  change ((idx BTW (Int.tmod (w.toNat : Int) 6)).bind _) = _
  rw [x1]
  simp only [obind]
  rw [cat, if_pos (by omega)]
  simp only [obind]
  rw [cat, if_pos (by simp; omega)]
  simp only [obind]
  obtain ⟨C, c1, c2⟩ := tokens_spec (s ++ x ++ t) (by simp; omega) (fuel := fuel) (by simp; omega)
  rw [c1]
  simp only [obind]
  have hT := Toks.ext (x ++ t) y2 (Toks.skip y1 bT) aT
  rw [← List.append_assoc] at hT
  rcases c2 with ⟨c0, lc, cT, cL⟩ | ⟨c0, cL, cN, _⟩
  case inr => exact (cN _ hT).elim
  have hlc := cT.inj hT
  have h5 : eqI C.2.2 0 = true := decide_eq_true c0
  simp only [h5, Bool.not_true, Bool.false_eq_true, if_false]
  rw [chk64 (by omega) (by omega)]
  simp only [obind]
  rw [show ((A.1.length : Int) - 1) = ((la'.length : Nat) : Int) by omega, subTg A.1 la'.length (by omega)]
  simp only [obind]
  have hCl : C.1.length ≤ 1300 := by
    have q1 := cT.len (by simp; omega)
    rw [cL]
    simp at q1 ⊢
    omega
  rw [Concat2 _ _ (by omega) (by rw [List.length_take]; omega)]
  simp only [obind]
  have hkt : C.1.map kt = (A.1.take la'.length ++ B.1).map kt := by
    rw [List.map_append, List.map_take, cL, aL, bL, ktMap, ktMap, ktMap, hlc, hla]
    simp
  rw [SameF_M _ _ hkt (by omega)]
  simp only [obind, Bool.not_true, Bool.false_eq_true, if_false, M.strings_Contains]
  by_cases p1 : 0 ≤ Lib.indexByte s 40
  · simp only [p1, decide_true, if_true, obind]
  by_cases p2 : 0 ≤ Lib.indexByte s 42
  · simp only [p1, p2, decide_true, decide_false, Bool.false_eq_true, if_false, if_true, obind]
  by_cases p3 : 0 ≤ Lib.indexByte s 41
  · simp only [p1, p2, p3, decide_true, decide_false, Bool.false_eq_true, if_false, if_true, obind]
  simp only [p1, p2, p3, decide_false, Bool.false_eq_true, if_false, obind]
  rw [cat, if_pos (by simp; omega)]
  simp only [obind]
  rw [cat, if_pos (by simp; omega)]
  simp only [obind]
  have m1 := notin p1; have m2 := notin p2
  have hw : ([40, 42, 32] ++ s ++ [32, 42, 41] : List UInt8) = 40 :: 42 :: ((32 :: (s ++ [32])) ++ [42, 41]) := by simp
  rw [hw]
  have hD : Toks (40 :: 42 :: ((32 :: (s ++ [32])) ++ [42, 41])) [(8, [], [])] := by
    refine .done ?_
    rw [skp_cmt, cmt_plain _ (fun c hc => ?_), obind, skp_nil]
    simp only [List.mem_cons, List.mem_append, List.not_mem_nil, or_false] at hc
    rcases hc with rfl | hc | rfl
    · decide
    · exact ⟨fun e => m1 (e ▸ hc), fun e => m2 (e ▸ hc)⟩
    · decide
  obtain ⟨D, d1, d2⟩ := tokens_spec (40 :: 42 :: ((32 :: (s ++ [32])) ++ [42, 41])) (by simp; omega) (fuel := fuel) (by simp; omega)
  rw [d1]
  rcases d2 with ⟨d0, ld, dT, dL⟩ | ⟨d0, dL, dN, _⟩
  case inr => exact (dN _ hD).elim
  have hld := dT.inj hD
  subst hld
  simp only [obind]
  rw [show eqI D.2.2 0 = true from decide_eq_true d0, dL]
  rfl
theorem LexerBlanks_true (s t : List UInt8) (w : UInt8) (_ : s.length ≤ 140737488351232) (_ : t.length ≤ 140737488351232) : ∃ fuel, M.law02_LexerBlanks fuel s t w = some true := ⟨5000, Blanks_M s t w (by omega)⟩
end Go.Proofs.Ythbjlmoaceaeeaa
