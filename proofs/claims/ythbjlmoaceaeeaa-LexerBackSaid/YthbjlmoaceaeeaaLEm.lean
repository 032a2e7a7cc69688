/- For every input the law LexerBack returns true. Part 13 of 16. No condition. -/
import Derived.Test.YthbjlmoaceaeeaaLEl
import Derived.Lib.IndexLaws
set_option linter.unusedVariables false
set_option linter.unusedSimpArgs false
namespace Go.Proofs.Ythbjlmoaceaeeaa
open Go Go.Abs
def kt (t : Api.Token) : Int × List UInt8 := (t.Kind, t.Text)
theorem SameF_loop (l l' : List Api.Token) (h : l.map kt = l'.map kt) : ∀ (n i k : Nat), i + n = l.length → n + 1 ≤ k → M.ref02_Same_l1 l l' false k i = some (.inr ()) := by
  intro n
  induction n with
  | zero =>
    intro i k hi hk
    obtain ⟨g, rfl⟩ : ∃ g, k = g + 1 := ⟨k - 1, by omega⟩
    rw [M.ref02_Same_l1, if_neg (show ¬ ltI (i : Int) (l.length : Int) = true from fun h => by have := ltT h; omega)]
  | succ n ih =>
    intro i k hi hk
    obtain ⟨g, rfl⟩ : ∃ g, k = g + 1 := ⟨k - 1, by omega⟩
    have hll : l.length = l'.length := by have := congrArg List.length h; simpa using this
    have hx : l[i]? = some l[i] := List.getElem?_eq_getElem (by omega)
    have hy : l'[i]? = some l'[i] := List.getElem?_eq_getElem (by omega)
    have he : kt l[i] = kt l'[i] := by
      have := congrArg (fun z => z[i]?) h
      simp only [List.getElem?_map, hx, hy, Option.map_some, Option.some.injEq] at this
      exact this
    generalize l[i] = t at hx he
    generalize l'[i] = t' at hy he
    simp only [kt, Prod.mk.injEq] at he
    have r1 : eqI t.Kind t'.Kind = true := decide_eq_true he.1
    have r2 : eqS t.Text t'.Text = true := decide_eq_true he.2
    rw [M.ref02_Same_l1, if_pos (show ltI (i : Int) (l.length : Int) = true from decide_eq_true (by omega)), hx, hy]
    simp only [obind, r1, r2, Bool.not_true, Bool.false_eq_true, if_false]
    exact ih (i + 1) g (by omega) (by omega)
theorem SameF_M (l l' : List Api.Token) (h : l.map kt = l'.map kt) {fuel : Nat} (hf : l.length + 1 ≤ fuel) : M.ref02_Same fuel l l' false = some true := by
  have hll : l.length = l'.length := by have := congrArg List.length h; simpa using this
  rw [M.ref02_Same, show eqI (l.length : Int) (l'.length : Int) = true from decide_eq_true (by omega), SameF_loop l l' h l.length 0 fuel (by omega) hf]
  rfl
theorem Concat2 (A B : List Api.Token) {fuel : Nat} (hf : 3 ≤ fuel) (hl : A.length + B.length ≤ 100000) : M.slices_Concat_api_Token fuel [A, B] = some (A ++ B) := by
  obtain ⟨g, rfl⟩ : ∃ g, fuel = g + 1 + 1 + 1 := ⟨fuel - 3, by omega⟩
  have t0 : ltI ((0 : Nat) : Int) (([A, B] : List (List Api.Token)).length : Int) = true := rfl
  have t1 : ltI ((0 + 1 : Nat) : Int) (([A, B] : List (List Api.Token)).length : Int) = true := rfl
  have t2 : ltI ((0 + 1 + 1 : Nat) : Int) (([A, B] : List (List Api.Token)).length : Int) = false := rfl
  rw [M.slices_Concat_api_Token, M.slices_Concat_api_Token_l1, t0]
  simp only [if_true, List.getElem?_cons_zero, obind]
  rw [chk64 (by omega) (by omega)]
  simp only [obind]
  rw [if_neg (show ¬ ltI (0 + (A.length : Int)) 0 = true from fun h => by have := ltT h; omega), M.slices_Concat_api_Token_l1, t1]
  simp only [if_true, List.getElem?_cons_zero, List.getElem?_cons_succ, Nat.zero_add, obind]
  rw [chk64 (by omega) (by omega)]
  simp only [obind]
  rw [if_neg (show ¬ ltI (0 + (A.length : Int) + (B.length : Int)) 0 = true from fun h => by have := ltT h; omega), M.slices_Concat_api_Token_l1, show ltI ((1 + 1 : Nat) : Int) (([A, B] : List (List Api.Token)).length : Int) = false from t2]
  simp only [Bool.false_eq_true, if_false, obind]
  rw [growC, if_pos ⟨by omega, by omega⟩]
  simp only [obind]
  rw [M.slices_Concat_api_Token_l2, t0]
  simp only [if_true, List.getElem?_cons_zero, obind]
  rw [app_some (by decide) (by simp; omega)]
  simp only [obind]
  rw [M.slices_Concat_api_Token_l2, t1]
  simp only [if_true, List.getElem?_cons_zero, List.getElem?_cons_succ, Nat.zero_add, obind]
  rw [app_some (by decide) (by simp; omega)]
  simp only [obind]
  rw [M.slices_Concat_api_Token_l2, show ltI ((1 + 1 : Nat) : Int) (([A, B] : List (List Api.Token)).length : Int) = false from t2]
  simp
theorem subTg {α : Type} (s : List α) (n : Nat) (h : n ≤ s.length) : subC s 0 (n : Int) = some (s.take n) := by
  rw [subC, if_pos ⟨by omega, by omega, by omega⟩]
  simp [sub]
theorem Toks.skip {u t : List UInt8} {l : List (Int × List UInt8 × List UInt8)} (h : skp u = skp t) (h2 : Toks t l) : Toks u l := by
  cases h2 with
  | done g => exact .done (h.trans g)
  | next g g1 g2 g3 => exact .next (h.trans g) g1 g2 g3
def BTW : List (List UInt8) := [[32], [10], [9, 10, 32], [32, 40, 42, 42, 41, 32], [40, 42, 32, 97, 32, 40, 42, 32, 34, 98, 32, 42, 41, 32, 39, 32, 42, 41], [40, 42, 42, 42, 41]]
theorem between (x : List UInt8) (hx : x ∈ BTW) (t : List UInt8) : skp (x ++ t) = skp t ∧ bd (x ++ t) ∧ x.length ≤ 20 := by
  simp only [BTW, List.mem_cons, List.not_mem_nil, or_false] at hx
  have b32 : blank 32 = true := rfl
  have b10 : blank 10 = true := rfl
  have b9 : blank 9 = true := rfl
  rcases hx with rfl | rfl | rfl | rfl | rfl | rfl
  · exact ⟨skp_blank b32, .inl rfl, by decide⟩
  · exact ⟨skp_blank b10, .inr (.inr (.inl rfl)), by decide⟩
  · exact ⟨(skp_blank b9).trans ((skp_blank b10).trans (skp_blank b32)), .inr (.inl rfl), by decide⟩
  · refine ⟨(skp_blank b32).trans ?_, .inl rfl, by decide⟩
    have e : cmt 1 (42 :: 41 :: 32 :: t) = some (32 :: t) := by simp [cmt]
    show skp (40 :: 42 :: (42 :: 41 :: 32 :: t)) = _
    rw [skp_cmt, e, obind, skp_blank b32]
  · refine ⟨?_, .inr (.inr (.inr rfl)), by decide⟩
    have e : cmt 1 (32 :: 97 :: 32 :: 40 :: 42 :: 32 :: 34 :: 98 :: 32 :: 42 :: 41 :: 32 :: 39 :: 32 :: 42 :: 41 :: t) = some t := by simp [cmt]
    show skp (40 :: 42 :: (32 :: 97 :: 32 :: 40 :: 42 :: 32 :: 34 :: 98 :: 32 :: 42 :: 41 :: 32 :: 39 :: 32 :: 42 :: 41 :: t)) = _
    rw [skp_cmt, e, obind]
  · refine ⟨?_, .inr (.inr (.inr rfl)), by decide⟩
    have e : cmt 1 (42 :: 42 :: 41 :: t) = some t := by simp [cmt]
    show skp (40 :: 42 :: (42 :: 42 :: 41 :: t)) = _
    rw [skp_cmt, e, obind]
theorem cmt_plain : ∀ s : List UInt8, (∀ c ∈ s, c ≠ 40 ∧ c ≠ 42) → cmt 1 (s ++ [42, 41]) = some []
  | [], _ => by simp [cmt]
  | [c], h => by
    have hc := h c (by simp)
    show cmt 1 (c :: 42 :: [41]) = _
    rw [cmt, if_neg (fun e => hc.1 e.1), if_neg (fun e => hc.2 e.1)]
    simp [cmt]
  | c :: d :: s, h => by
    have hc := h c (by simp)
    show cmt 1 (c :: d :: (s ++ [42, 41])) = _
    rw [cmt, if_neg (fun e => hc.1 e.1), if_neg (fun e => hc.2 e.1)]
    exact cmt_plain (d :: s) (fun x hx => h x (List.mem_cons_of_mem _ hx))
theorem notin {s : List UInt8} {c : UInt8} (h : ¬ 0 ≤ Lib.indexByte s c) : c ∉ s := by
  have h1 := Lib.indexByte_ge s c
  have h2 : Lib.indexByte s c = -1 := by omega
  intro hm
  obtain ⟨k, hk⟩ := List.getElem?_of_mem hm
  exact Lib.indexByte_none h2 k hk
theorem ktMap (s : List UInt8) (l : List (Int × List UInt8 × List UInt8)) : (l.map (tokOf s)).map kt = l.map fun q => (q.1, q.2.1) := by
  rw [List.map_map]; rfl
theorem Blanks_M (s t : List UInt8) (w : UInt8) {fuel : Nat} (hf : 5000 ≤ fuel) : M.law02_LexerBlanks fuel s t w = some true := by
  rw [M.law02_LexerBlanks, awake_M (by omega)]
  simp only [obind, Bool.not_true, Bool.false_eq_true, if_false]
  by_cases hs : 600 < s.length
  · rw [show ltI 600 (s.length : Int) = true from decide_eq_true (by omega)]; rfl
  by_cases ht : 600 < t.length
  · rw [show ltI 600 (t.length : Int) = true from decide_eq_true (by omega), Bool.or_true]; rfl
  rw [show ltI 600 (s.length : Int) = false from decide_eq_false (by omega), show ltI 600 (t.length : Int) = false from decide_eq_false (by omega)]
  simp only [Bool.or_self, Bool.false_eq_true, if_false]
  obtain ⟨A, a1, a2⟩ := tokens_spec s (by omega) (fuel := fuel) (by omega)
  obtain ⟨B, b1, b2⟩ := tokens_spec t (by omega) (fuel := fuel) (by omega)
  rw [a1, b1]
  simp only [obind]
  rcases a2 with ⟨a0, la, aT, aL⟩ | ⟨a0, aL, _⟩
  case inr =>
    have h1 : eqI A.2.2 0 = false := decide_eq_false a0
    rw [h1, aL]; rfl
  rcases b2 with ⟨b0, lb, bT, bL⟩ | ⟨b0, bL, _⟩
  case inr =>
    have h1 : eqI A.2.2 0 = true := decide_eq_true a0
    have h2 : eqI B.2.2 0 = false := decide_eq_false b0
    rw [h1, h2, bL]; rfl
  have h1 : eqI A.2.2 0 = true := decide_eq_true a0
  have h2 : eqI B.2.2 0 = true := decide_eq_true b0
  obtain ⟨la', hla⟩ := aT.last
  obtain ⟨lb', hlb⟩ := bT.last
  have al : A.1.length = la'.length + 1 := by rw [aL, hla]; simp
  have bl : B.1.length = lb'.length + 1 := by rw [bL, hlb]; simp
  have hLa : la'.length ≤ 700 ∧ B.1.length ≤ 700 := by
    have q1 := aT.len (by omega); have q2 := bT.len (by omega)
    rw [hla] at q1; rw [hlb] at q2
    simp at q1 q2
    omega
  have h3 : eqI (A.1.length : Int) 0 = false := decide_eq_false (by omega)
  have h4 : eqI (B.1.length : Int) 0 = false := decide_eq_false (by omega)
  simp only [h1, h2, h3, h4, Bool.not_true, Bool.or_self, Bool.false_eq_true, if_false]
  have hm : Int.tmod (w.toNat : Int) 6 = ((w.toNat % 6 : Nat) : Int) := by rw [Int.tmod_eq_emod_of_nonneg (by omega)]; rfl
  have hidx : ∃ x, idx BTW (Int.tmod (w.toNat : Int) 6) = some x ∧ x ∈ BTW := by
    rw [hm, idxN]
    have : w.toNat % 6 < BTW.length := Nat.mod_lt _ (by decide)
    exact ⟨_, List.getElem?_eq_getElem this, List.getElem_mem _⟩
  obtain ⟨x, x1, x2⟩ := hidx
  obtain ⟨y1, y2, y3⟩ := between x x2 t
  change ((idx BTW (Int.tmod (w.toNat : Int) 6)).bind _) = _
  rw [x1]
  simp only [obind]
  rw [cat, if_pos (by omega)]
  simp only [obind]
  rw [cat, if_pos (by simp; omega)]
  simp only [obind]
  obtain ⟨C, c1, c2⟩ := tokens_spec (s ++ x ++ t) (by simp; omega) (fuel := fuel) (by simp; omega)
  rw [c1]
  simp only [obind]
  have hT := Toks.ext (x ++ t) y2 (Toks.skip y1 bT) aT
  rw [← List.append_assoc] at hT
  rcases c2 with ⟨c0, lc, cT, cL⟩ | ⟨c0, cL, cN, _⟩
  case inr => exact (cN _ hT).elim
  have hlc := cT.inj hT
  have h5 : eqI C.2.2 0 = true := decide_eq_true c0
  simp only [h5, Bool.not_true, Bool.false_eq_true, if_false]
  rw [chk64 (by omega) (by omega)]
  simp only [obind]
  rw [show ((A.1.length : Int) - 1) = ((la'.length : Nat) : Int) by omega, subTg A.1 la'.length (by omega)]
  simp only [obind]
  have hCl : C.1.length ≤ 1300 := by
    have q1 := cT.len (by simp; omega)
    rw [cL]
    simp at q1 ⊢
    omega
  rw [Concat2 _ _ (by omega) (by rw [List.length_take]; omega)]
  simp only [obind]
  have hkt : C.1.map kt = (A.1.take la'.length ++ B.1).map kt := by
    rw [List.map_append, List.map_take, cL, aL, bL, ktMap, ktMap, ktMap, hlc, hla]
    simp
  rw [SameF_M _ _ hkt (by omega)]
  simp only [obind, Bool.not_true, Bool.false_eq_true, if_false, M.strings_Contains]
  by_cases p1 : 0 ≤ Lib.indexByte s 40
  · simp only [p1, decide_true, if_true, obind]
  by_cases p2 : 0 ≤ Lib.indexByte s 42
  · simp only [p1, p2, decide_true, decide_false, Bool.false_eq_true, if_false, if_true, obind]
  by_cases p3 : 0 ≤ Lib.indexByte s 41
  · simp only [p1, p2, p3, decide_true, decide_false, Bool.false_eq_true, if_false, if_true, obind]
  simp only [p1, p2, p3, decide_false, Bool.false_eq_true, if_false, obind]
  rw [cat, if_pos (by simp; omega)]
  simp only [obind]
  rw [cat, if_pos (by simp; omega)]
  simp only [obind]
  have m1 := notin p1; have m2 := notin p2
  have hw : ([40, 42, 32] ++ s ++ [32, 42, 41] : List UInt8) = 40 :: 42 :: ((32 :: (s ++ [32])) ++ [42, 41]) := by simp
  rw [hw]
  have hD : Toks (40 :: 42 :: ((32 :: (s ++ [32])) ++ [42, 41])) [(8, [], [])] := by
    refine .done ?_
    rw [skp_cmt, cmt_plain _ (fun c hc => ?_), obind, skp_nil]
    simp only [List.mem_cons, List.mem_append, List.not_mem_nil, or_false] at hc
    rcases hc with rfl | hc | rfl
    · decide
    · exact ⟨fun e => m1 (e ▸ hc), fun e => m2 (e ▸ hc)⟩
    · decide
  obtain ⟨D, d1, d2⟩ := tokens_spec (40 :: 42 :: ((32 :: (s ++ [32])) ++ [42, 41])) (by simp; omega) (fuel := fuel) (by simp; omega)
  rw [d1]
  rcases d2 with ⟨d0, ld, dT, dL⟩ | ⟨d0, dL, dN, _⟩
  case inr => exact (dN _ hD).elim
  have hld := dT.inj hD
  subst hld
  simp only [obind]
  rw [show eqI D.2.2 0 = true from decide_eq_true d0, dL]
  rfl
theorem LexerBlanks_true (s t : List UInt8) (w : UInt8) (_ : s.length ≤ 140737488351232) (_ : t.length ≤ 140737488351232) : ∃ fuel, M.law02_LexerBlanks fuel s t w = some true := ⟨5000, Blanks_M s t w (by omega)⟩
end Go.Proofs.Ythbjlmoaceaeeaa
set_option linter.unusedVariables false
set_option linter.unusedSimpArgs false
namespace Go.Proofs.Ythbjlmoaceaeeaa
open Go Go.Abs
def rt (t : Api.Token) : Bool := if t.Kind = 5 then decide (t.Text.length ≤ 16384) && t.Text.all okc else decide (tk t.Text = some (t.Kind, t.Text, []))
def wt (t : Api.Token) : List UInt8 := if t.Kind = 5 then 34 :: (qs t.Text ++ [34]) else t.Text
theorem sy_first {c : UInt8} {r : List UInt8} (h : sy (c :: r) ≠ []) : (smB c || caB c) = false ∧ c ≠ 39 ∧ diB c = false ∧ c ≠ 34 ∧ blank c = false := by
  have key : ∀ d ∈ ([58, 61, 45, 60] ++ SB : List UInt8), (smB d || caB d) = false ∧ d ≠ 39 ∧ diB d = false ∧ d ≠ 34 ∧ blank d = false := by decide
  refine key c ?_
  rw [sy] at h
  split at h
  · exact (h rfl).elim
  split at h
  · rename_i x hx
    have h1 := List.find?_some hx
    have h2 := List.mem_of_find?_eq_some hx
    simp only [SA, List.mem_cons, List.not_mem_nil, or_false] at h2
    rcases h2 with rfl | rfl | rfl | rfl <;> obtain ⟨q, hq⟩ := (pre2 _ _ _).1 h1 <;> cases hq <;> simp
  · split at h
    · rename_i h3
      have : c ∈ SB := by
        refine Classical.byContradiction fun hn => ?_
        have hno : ∀ l : List UInt8, c ∉ l → Lib.indexByte l c = -1 := by
          intro l
          induction l with
          | nil => intro _; rfl
          | cons b l ih =>
            intro hb
            have hb1 : ¬ b = c := fun e => hb (by rw [e]; exact List.mem_cons_self ..)
            have hb2 : c ∉ l := fun e => hb (List.mem_cons_of_mem _ e)
            simp [Lib.indexByte, hb1, ih hb2]
        have := hno SB hn
        omega
      exact List.mem_append_right _ this
    · exact (h rfl).elim
theorem tk_cases {s x r : List UInt8} {k : Int} (h : tk s = some (k, x, r)) : (k = 1 ∨ k = 2 ∨ k = 3 ∨ k = 4 ∨ k = 5 ∨ k = 6 ∨ k = 7) ∧ (k ≠ 5 → s = x ++ r) ∧ s ≠ [] ∧ skp s = some s ∧ (k = 7 → sy s = x) := by
  match s, h with
  | [], h => simp [tk] at h
  | c :: t, h =>
    have hsk : blank c = false → pre (c :: t) [40, 42] = false → skp (c :: t) = some (c :: t) := skp_else
    have hp : c ≠ 40 → pre (c :: t) [40, 42] = false := fun hc => by
      cases hh : pre (c :: t) [40, 42]
      · rfl
      · obtain ⟨q, hq⟩ := (pre2 _ _ _).1 hh
        cases hq; exact (hc rfl).elim
    have bl : ∀ c : UInt8, blank c = true → c = 32 ∨ c = 9 ∨ c = 10 := fun c h => by
      unfold blank at h
      simpa using h
    rw [tk.eq_def] at h
    dsimp only at h
    by_cases h1 : (smB c || caB c) = true
    · rw [if_pos h1] at h
      have n40 : c ≠ 40 := fun e => by subst e; revert h1; decide
      have nb : blank c = false := by
        cases hb : blank c
        · rfl
        · rcases bl c hb with rfl | rfl | rfl <;> (revert h1; decide)
      split at h
      · cases h
      · simp only [Option.some.injEq, Prod.mk.injEq] at h
        obtain ⟨rfl, rfl, rfl⟩ := h
        refine ⟨?_, fun _ => (List.take_append_drop _ _).symm, by simp, hsk nb (hp n40), fun e => ?_⟩
        · split
          · simp
          · split <;> simp
        · split at e
          · omega
          · split at e <;> omega
    rw [if_neg h1] at h
    by_cases h2 : c = 39
    · subst h2
      rw [if_pos rfl] at h
      have n40 : (39 : UInt8) ≠ 40 := by decide
      split at h
      · cases h
      · split at h
        · split at h
          · cases h
          · simp only [Option.some.injEq, Prod.mk.injEq] at h
            obtain ⟨rfl, rfl, rfl⟩ := h
            exact ⟨by simp, fun _ => (List.take_append_drop _ _).symm, by simp, hsk rfl (hp n40), fun e => by omega⟩
        · cases h
    rw [if_neg h2] at h
    by_cases h3 : diB c = true
    · rw [if_pos h3] at h
      have n40 : c ≠ 40 := fun e => by subst e; revert h3; decide
      have nb : blank c = false := by
        cases hb : blank c
        · rfl
        · rcases bl c hb with rfl | rfl | rfl <;> (revert h3; decide)
      split at h
      · simp only [Option.some.injEq, Prod.mk.injEq] at h
        obtain ⟨rfl, rfl, rfl⟩ := h
        exact ⟨by simp, fun _ => (List.take_append_drop _ _).symm, by simp, hsk nb (hp n40), fun e => by omega⟩
      · cases h
    rw [if_neg h3] at h
    by_cases h4 : c = 34
    · subst h4
      rw [if_pos rfl] at h
      cases hl : lt t with
      | none => rw [hl] at h; cases h
      | some q =>
        rw [hl] at h
        simp only [Option.map_some, Option.some.injEq, Prod.mk.injEq] at h
        obtain ⟨rfl, rfl, rfl⟩ := h
        exact ⟨by simp, fun e => (e rfl).elim, by simp, hsk rfl (hp (by decide)), fun e => by omega⟩
    rw [if_neg h4] at h
    obtain ⟨_, y2, y3⟩ := Symbol_sy c t (fuel := 40) (Nat.le_refl _)
    split at h
    · cases h
    · rename_i h5
      have hf := sy_first h5
      simp only [Option.some.injEq, Prod.mk.injEq] at h
      obtain ⟨rfl, rfl, rfl⟩ := h
      refine ⟨by simp, fun _ => ?_, by simp, hsk hf.2.2.2.2 ?_, fun _ => rfl⟩
      · have := (List.take_append_drop (sy (c :: t)).length (c :: t)).symm
        rw [y3] at this
        exact this
      · cases hh : pre (c :: t) [40, 42]
        · rfl
        · rw [sy, if_pos hh] at h5; exact (h5 rfl).elim
theorem tk_sy {c : UInt8} {t : List UInt8} (h : sy (c :: t) ≠ []) : tk (c :: t) = some (7, sy (c :: t), (c :: t).drop (sy (c :: t)).length) := by
  obtain ⟨a1, a2, a3, a4, _⟩ := sy_first h
  rw [tk.eq_def]
  dsimp only
  rw [if_neg (by rw [a1]; simp), if_neg a2, if_neg (by rw [a3]; simp), if_neg a4, if_neg h]
theorem tokB (t : Api.Token) (h5 : t.Kind ≠ 5) (hne : t.Text ≠ []) (hl : t.Text.length ≤ 20000) {fuel : Nat} (hf : 20200 ≤ fuel) :
    ∃ L, M.lexer_scanner_token fuel (Lexer.scanner.mk t.Text 0) = some L ∧ ((eqI L.2.2.1 0) && ((eqI L.1.Kind t.Kind) && (eqI L.2.2.2.at_ (t.Text.length : Int)))) = rt t := by
  have hpos : 0 < t.Text.length := by
    cases h : t.Text with
    | nil => exact (hne h).elim
    | cons c r => simp
  obtain ⟨L, l1, l2⟩ := token_spec t.Text (by omega) 0 hpos (fuel := fuel) (by omega)
  refine ⟨L, l1, ?_⟩
  unfold rt
  rw [if_neg h5]
  unfold TKS at l2
  simp only [List.drop_zero, Nat.zero_add] at l2
  rcases l2 with ⟨e0, N, n1, n2, n3, n4⟩ | ⟨e0, n1, _⟩
  · rw [decide_eq_true (show L.2.2.1 = 0 from e0) |> (show eqI L.2.2.1 0 = true from ·), Bool.true_and, n4, n3]
    obtain ⟨c1, c2, _⟩ := tk_cases n3
    by_cases hk : L.1.Kind = t.Kind
    · by_cases hN : N = t.Text.length
      · have e1 : eqI L.1.Kind t.Kind = true := decide_eq_true hk
        have e2 : eqI ((N : Nat) : Int) (t.Text.length : Int) = true := decide_eq_true (by omega)
        have hd : t.Text.drop N = [] := List.drop_eq_nil_of_le (by omega)
        have hx := c2 (by rw [hk]; exact h5)
        rw [hd, List.append_nil] at hx
        rw [e1]
        dsimp only
        rw [e2, hd, hk, ← hx]
        simp
      · have e2 : eqI ((N : Nat) : Int) (t.Text.length : Int) = false := decide_eq_false (by omega)
        dsimp only
        rw [e2, Bool.and_false]
        refine (decide_eq_false ?_).symm
        intro e
        simp only [Option.some.injEq, Prod.mk.injEq] at e
        have := congrArg List.length e.2.2
        simp at this
        omega
    · have e1 : eqI L.1.Kind t.Kind = false := decide_eq_false hk
      rw [e1, Bool.false_and]
      refine (decide_eq_false ?_).symm
      intro e
      simp only [Option.some.injEq, Prod.mk.injEq] at e
      exact hk e.1
  · rw [decide_eq_false (show ¬ L.2.2.1 = 0 from e0) |> (show eqI L.2.2.1 0 = false from ·), Bool.false_and, n1]
    rfl
theorem Symbol_nil {fuel : Nat} (hf : 40 ≤ fuel) : M.lexer_Symbol fuel [] = some ([], false) := by
  rw [M.lexer_Symbol, has_M]
  have hA := Sym_loop [] SA 4 0 fuel rfl (by omega)
  have h0 : pre [] [40, 42] = false := rfl
  simp only [obind, h0, Bool.false_eq_true, if_false]
  change ((M.lexer_Symbol_l1 [] SA fuel 0).bind _) = _
  rw [hA]
  rfl
theorem written_M (t : Api.Token) (hl : t.Text.length ≤ 17000) {fuel : Nat} (hf : 20200 ≤ fuel) : ∃ w, M.lexer_written fuel t = some (w, rt t) ∧ (rt t = true → w = wt t) ∧ w.length ≤ 40000 := by
  rw [M.lexer_written]
  have ek : ∀ n : Int, eqI t.Kind n = decide (t.Kind = n) := fun n => rfl
  simp only [ek]
  by_cases h5 : t.Kind = 5
  · have hwt : wt t = 34 :: (qs t.Text ++ [34]) := by unfold wt; rw [if_pos h5]
    have hrt : rt t = (decide (t.Text.length ≤ 16384) && t.Text.all okc) := by unfold rt; rw [if_pos h5]
    rw [decide_eq_true h5, if_pos rfl, hrt]
    by_cases hs : t.Text.length ≤ 16384
    · rw [Quote_M hs (by omega), decide_eq_true hs, Bool.true_and]
      have := qs_len t.Text
      cases ha : t.Text.all okc
      · exact ⟨[], rfl, fun h => (by cases h), by simp⟩
      · exact ⟨34 :: (qs t.Text ++ [34]), rfl, fun _ => hwt.symm, by simp; omega⟩
    · rw [M.lexer_Quote, if_pos (show ltI 16384 (t.Text.length : Int) = true from decide_eq_true (by omega)), decide_eq_false hs, Bool.false_and]
      exact ⟨[], rfl, fun h => (by cases h), by simp⟩
  rw [decide_eq_false h5]
  have hwt : wt t = t.Text := by unfold wt; rw [if_neg h5]
  simp only [Bool.false_eq_true, if_false]
  by_cases h7 : t.Kind = 7
  · rw [decide_eq_true h7]
    simp only [if_true]
    have hrt : rt t = decide (tk t.Text = some (7, t.Text, [])) := by unfold rt; rw [if_neg h5, h7]
    rw [hrt]
    generalize t.Text = s at hl hwt
    match s, hl, hwt with
    | [], hl, hwt =>
      rw [Symbol_nil (by omega)]
      exact ⟨[], rfl, fun h => (by cases h), by simp⟩
    | c :: r, hl, hwt =>
      obtain ⟨y1, y2, y3⟩ := Symbol_sy c r (fuel := fuel) (by omega)
      rw [y1]
      simp only [obind]
      refine ⟨c :: r, ?_, fun _ => hwt.symm, by omega⟩
      congr 2
      by_cases hs : sy (c :: r) = c :: r
      · have hn : sy (c :: r) ≠ [] := by rw [hs]; simp
        have e1 : eqS (sy (c :: r)) (c :: r) = true := decide_eq_true hs
        rw [decide_eq_true hn, e1, tk_sy hn, hs]
        simp
      · have e1 : eqS (sy (c :: r)) (c :: r) = false := decide_eq_false hs
        rw [e1, Bool.and_false]
        refine (decide_eq_false fun e => ?_).symm
        exact hs ((tk_cases e).2.2.2.2 rfl)
  rw [decide_eq_false h7]
  simp only [Bool.false_eq_true, if_false]
  by_cases hne : t.Text = []
  · have hrt : rt t = false := by unfold rt; rw [if_neg h5, hne]; simp [tk]
    have e1 : eqS t.Text [] = true := decide_eq_true hne
    simp only [e1, if_true, hrt, ite_self]
    exact ⟨[], rfl, fun h => (by cases h), by simp⟩
  have e1 : eqS t.Text [] = false := decide_eq_false hne
  obtain ⟨L, l1, l2⟩ := tokB t h5 hne (by omega) (fuel := fuel) hf
  simp only [e1, Bool.false_eq_true, if_false, l1, obind, l2]
  by_cases hk : t.Kind = 1 ∨ t.Kind = 2 ∨ t.Kind = 3 ∨ t.Kind = 4 ∨ t.Kind = 6
  · refine ⟨t.Text, ?_, fun _ => hwt.symm, by omega⟩
    rcases hk with h | h | h | h | h <;> simp [h]
  · have n1 : ¬ t.Kind = 1 := fun e => hk (.inl e)
    have n2 : ¬ t.Kind = 2 := fun e => hk (.inr (.inl e))
    have n3 : ¬ t.Kind = 3 := fun e => hk (.inr (.inr (.inl e)))
    have n4 : ¬ t.Kind = 4 := fun e => hk (.inr (.inr (.inr (.inl e))))
    have n6 : ¬ t.Kind = 6 := fun e => hk (.inr (.inr (.inr (.inr e))))
    have hrt : rt t = false := by
      unfold rt
      rw [if_neg h5]
      refine decide_eq_false fun e => ?_
      have := (tk_cases e).1
      omega
    simp only [decide_eq_false n1, decide_eq_false n2, decide_eq_false n3, decide_eq_false n4, decide_eq_false n6, Bool.false_eq_true, if_false, hrt]
    exact ⟨[], rfl, fun h => (by cases h), by simp⟩
theorem Plain_loop (s : List UInt8) : ∀ (n i k : Nat), i + n = s.length → n + 1 ≤ k → M.ref02_Plain_l1 s k i = some (if (s.drop i).all okc = true then .inr () else .inl false) := by
  intro n
  induction n with
  | zero =>
    intro i k hi hk
    obtain ⟨g, rfl⟩ : ∃ g, k = g + 1 := ⟨k - 1, by omega⟩
    rw [M.ref02_Plain_l1, if_neg (show ¬ ltI (i : Int) (s.length : Int) = true from fun h => by have := ltT h; omega), List.drop_eq_nil_of_le (by omega)]
    rfl
  | succ n ih =>
    intro i k hi hk
    obtain ⟨g, rfl⟩ : ∃ g, k = g + 1 := ⟨k - 1, by omega⟩
    have hx : s[i]? = some s[i] := List.getElem?_eq_getElem (by omega)
    rw [M.ref02_Plain_l1, if_pos (show ltI (i : Int) (s.length : Int) = true from decide_eq_true (by omega)), hx, List.drop_eq_getElem_cons (by omega), List.all_cons]
    generalize s[i] = c
    simp only [obind, e10]
    have hb : (if ltI (c.toNat : Int) 32 = true then some (!decide (c = 10)) else if ltI 126 (c.toNat : Int) = true then some (!decide (c = 10)) else some false) = some (!okc c) := by
      have hv := vis_N c.toNat
      unfold okc
      have e : (c == 10) = decide (c = 10) := rfl
      rw [e]
      cases h1 : ltI (c.toNat : Int) 32
      · cases h2 : ltI 126 (c.toNat : Int)
        · rw [h1, h2] at hv
          have : (decide (32 ≤ c.toNat) && decide (c.toNat ≤ 126)) = true := by simpa using hv.symm
          simp [this]
        · rw [h1, h2] at hv
          have : (decide (32 ≤ c.toNat) && decide (c.toNat ≤ 126)) = false := by
            cases hB : (decide (32 ≤ c.toNat) && decide (c.toNat ≤ 126))
            · rfl
            · rw [hB] at hv; simp at hv
          simp [this]
      · rw [h1] at hv
        have : (decide (32 ≤ c.toNat) && decide (c.toNat ≤ 126)) = false := by
            cases hB : (decide (32 ≤ c.toNat) && decide (c.toNat ≤ 126))
            · rfl
            · rw [hB] at hv; simp at hv
        simp [this]
    rw [hb]
    simp only [obind]
    cases okc c
    · rfl
    · simp only [Bool.not_true, Bool.false_eq_true, if_false, Bool.true_and]
      exact ih (i + 1) g (by omega) (by omega)
theorem Plain_M (s : List UInt8) {fuel : Nat} (hf : s.length + 1 ≤ fuel) : M.ref02_Plain fuel s = some (s.all okc) := by
  rw [M.ref02_Plain, Plain_loop s s.length 0 fuel (by omega) hf, List.drop_zero]
  cases s.all okc <;> rfl
theorem Right_M (t : Api.Token) (hl : t.Text.length ≤ 17000) {fuel : Nat} (hf : 20200 ≤ fuel) : M.ref02_Right fuel t = some (rt t) := by
  rw [M.ref02_Right]
  by_cases h5 : t.Kind = 5
  · have hrt : rt t = (decide (t.Text.length ≤ 16384) && t.Text.all okc) := by unfold rt; rw [if_pos h5]
    rw [show eqI t.Kind 5 = true from decide_eq_true h5, hrt]
    simp only [if_true]
    by_cases hs : t.Text.length ≤ 16384
    · rw [show leI (t.Text.length : Int) 16384 = true from decide_eq_true (by omega), Plain_M _ (by omega), decide_eq_true hs]; rfl
    · rw [show leI (t.Text.length : Int) 16384 = false from decide_eq_false (by omega), decide_eq_false hs]; rfl
  rw [show eqI t.Kind 5 = false from decide_eq_false h5]
  simp only [Bool.false_eq_true, if_false]
  by_cases hne : t.Text = []
  · have hrt : rt t = false := by unfold rt; rw [if_neg h5, hne]; simp [tk]
    rw [show eqS t.Text [] = true from decide_eq_true hne, hrt]; rfl
  rw [show eqS t.Text [] = false from decide_eq_false hne]
  simp only [Bool.false_eq_true, if_false]
  by_cases h8 : t.Kind = 8
  · have hrt : rt t = false := by
      unfold rt
      rw [if_neg h5]
      refine decide_eq_false fun e => ?_
      have := (tk_cases e).1
      omega
    rw [show eqI t.Kind 8 = true from decide_eq_true h8, hrt]; rfl
  rw [show eqI t.Kind 8 = false from decide_eq_false h8]
  simp only [Bool.false_eq_true, if_false]
  have hpos : 0 < t.Text.length := by
    cases h : t.Text with
    | nil => exact (hne h).elim
    | cons c r => simp
  have h0 : t.Text[0]? = some t.Text[0] := List.getElem?_eq_getElem hpos
  have hd : t.Text = t.Text[0] :: t.Text.drop 1 := by have := List.drop_eq_getElem_cons hpos; simpa using this
  generalize t.Text[0] = c at h0 hd
  rw [h0]
  simp only [obind, e34]
  by_cases c34 : c = 34
  · have hrt : rt t = false := by
      unfold rt
      rw [if_neg h5]
      refine decide_eq_false fun e => ?_
      rw [hd, c34, tk.eq_def] at e
      dsimp only at e
      rw [if_neg (by decide), if_neg (by decide), if_neg (by decide), if_pos rfl] at e
      cases hl : lt (t.Text.drop 1) with
      | none => rw [hl] at e; cases e
      | some q =>
        rw [hl] at e
        simp only [Option.map_some, Option.some.injEq, Prod.mk.injEq] at e
        exact h5 e.1.symm
    rw [decide_eq_true c34, hrt]; rfl
  rw [decide_eq_false c34]
  simp only [Bool.false_eq_true, if_false]
  obtain ⟨L, R, l1, r1, ht⟩ := token_both t.Text (by omega) 0 hpos (fuel := fuel) (by omega)
  obtain ⟨L', l1', hb⟩ := tokB t h5 hne (by omega) (fuel := fuel) hf
  have e0 : ((0 : Nat) : Int) = 0 := rfl
  rw [e0] at l1
  rw [l1] at l1'
  cases l1'
  rw [List.drop_zero] at r1
  rw [r1]
  simp only [obind]
  congr 1
  rw [← hb]
  rcases ht with ⟨t1, t2, t3, t4, N, t5, t6, t7, t8⟩ | ⟨t1, t2, P, t3, t4, t5⟩
  · rw [t1, t2, t3, t5, t8, Nat.zero_add]
    dsimp only
    rw [Bool.and_comm (eqI (N : Int) _)]
  · have a1 : eqI L.2.2.1 0 = false := decide_eq_false t1
    rw [t2, a1]; rfl
theorem RQuote_loop (s : List UInt8) (hs : s.length ≤ 20000) : ∀ (n i k : Nat) (b : List UInt8), i + n = s.length → n + 1 ≤ k → b.length + 2 * n ≤ 1000000 → M.ref02_Quote_l1 s k b i = some (b ++ qs (s.drop i)) := by
  intro n
  induction n with
  | zero =>
    intro i k b hi hk hb
    obtain ⟨g, rfl⟩ : ∃ g, k = g + 1 := ⟨k - 1, by omega⟩
    rw [M.ref02_Quote_l1, if_neg (show ¬ ltI (i : Int) (s.length : Int) = true from fun h => by have := ltT h; omega), List.drop_eq_nil_of_le (by omega)]
    simp [qs]
  | succ n ih =>
    intro i k b hi hk hb
    obtain ⟨g, rfl⟩ : ∃ g, k = g + 1 := ⟨k - 1, by omega⟩
    have hx : s[i]? = some s[i] := List.getElem?_eq_getElem (by omega)
    have hdc : s.drop i = s[i] :: s.drop (i + 1) := List.drop_eq_getElem_cons (by omega)
    rw [M.ref02_Quote_l1, if_pos (show ltI (i : Int) (s.length : Int) = true from decide_eq_true (by omega)), hx]
    generalize s[i] = c at hx hdc
    rw [hdc, qs_cons]
    simp only [obind, e10, e34, e92]
    by_cases c34 : c = 34
    · subst c34
      simp only [decide_true, if_true]
      rw [cat, if_pos (by simp; omega)]
      simp only [obind]
      rw [ih (i + 1) g _ (by omega) (by omega) (by simp; omega)]
      rw [show esc 34 = [92, 34] from rfl]; simp
    rw [decide_eq_false c34]
    simp only [Bool.false_eq_true, if_false]
    by_cases c92 : c = 92
    · subst c92
      simp only [decide_true, if_true]
      rw [cat, if_pos (by simp; omega)]
      simp only [obind]
      rw [ih (i + 1) g _ (by omega) (by omega) (by simp; omega)]
      rw [show esc 92 = [92, 92] from rfl]; simp
    rw [decide_eq_false c92]
    simp only [Bool.false_eq_true, if_false]
    by_cases c10 : c = 10
    · subst c10
      simp only [decide_true, if_true]
      rw [cat, if_pos (by simp; omega)]
      simp only [obind]
      rw [ih (i + 1) g _ (by omega) (by omega) (by simp; omega)]
      rw [show esc 10 = [92, 110] from rfl]; simp
    rw [decide_eq_false c10]
    simp only [Bool.false_eq_true, if_false]
    have he : esc c = [c] := by unfold esc; rw [if_neg c10, if_neg (by simp [c34, c92])]
    have hsub : subC s (i : Int) ((i + 1 : Nat) : Int) = some [c] := by
      rw [subC, if_pos ⟨by omega, by omega, by omega⟩]
      have e1 : ((i + 1 : Nat) : Int).toNat - (i : Int).toNat = 1 := by omega
      unfold sub
      rw [e1, Int.toNat_natCast, hdc]
      rfl
    rw [hsub]
    simp only [obind]
    rw [cat, if_pos (by simp; omega)]
    simp only [obind]
    rw [ih (i + 1) g _ (by omega) (by omega) (by simp; omega), he]
    simp
theorem RQuote_M (s : List UInt8) (hs : s.length ≤ 20000) {fuel : Nat} (hf : s.length + 1 ≤ fuel) : M.ref02_Quote fuel s = some (34 :: (qs s ++ [34])) := by
  have := qs_len s
  rw [M.ref02_Quote, RQuote_loop s hs s.length 0 fuel [34] (by omega) hf (by simp; omega), List.drop_zero]
  simp only [obind]
  rw [cat, if_pos (by simp; omega)]
  simp
end Go.Proofs.Ythbjlmoaceaeeaa
set_option linter.unusedVariables false
set_option linter.unusedSimpArgs false
namespace Go.Proofs.Ythbjlmoaceaeeaa
open Go Go.Abs
def Vl (l : List Api.Token) : Prop := l.length ≤ 20100 ∧ ∀ t ∈ l, t.Text.length ≤ 17000
def cutEnd (l : List Api.Token) : List Api.Token := match l.getLast? with
  | some t => if t.Kind = 8 ∧ t.Text = [] then l.dropLast else l
  | none => l
def JN (l : List Api.Token) : List UInt8 × Int :=
  if 20000 < l.length then ([], 5)
  else if l.all rt = true then (if 16384 < (Lib.join (l.map wt) [32]).length then ([], 5) else (Lib.join (l.map wt) [32], 0))
  else ([], 3)
theorem cutEnd_V {l : List Api.Token} (h : Vl l) : Vl (cutEnd l) := by
  unfold cutEnd
  split
  · split
    · exact ⟨by have := h.1; simp; omega, fun t ht => h.2 t (List.dropLast_subset _ ht)⟩
    · exact h
  · exact h
theorem wt_len (t : Api.Token) (h : t.Text.length ≤ 17000) : (wt t).length ≤ 40000 := by
  unfold wt
  split
  · have := qs_len t.Text; simp; omega
  · omega
theorem joinTail_len (ws : List (List UInt8)) (h : ∀ w ∈ ws, w.length ≤ 40000) : (Lib.joinTail [32] ws).length ≤ 40001 * ws.length := by
  induction ws with
  | nil => simp [Lib.joinTail]
  | cons w ws ih =>
    have h1 := ih (fun x hx => h x (List.mem_cons_of_mem _ hx))
    have h2 := h w (List.mem_cons_self ..)
    simp only [Lib.joinTail, List.map_cons, List.flatten_cons, List.length_append, List.length_cons, List.length_nil] at h1 ⊢
    omega
theorem join_len (ws : List (List UInt8)) (h : ∀ w ∈ ws, w.length ≤ 40000) : (Lib.join ws [32]).length ≤ 40001 * ws.length := by
  cases ws with
  | nil => simp [Lib.join_nil]
  | cons w ws =>
    have h1 := joinTail_len ws (fun x hx => h x (List.mem_cons_of_mem _ hx))
    have h2 := h w (List.mem_cons_self ..)
    rw [Lib.join_cons]
    simp only [List.length_append, List.length_cons]
    omega
theorem wts_len {l : List Api.Token} (h : ∀ t ∈ l, t.Text.length ≤ 17000) : ∀ w ∈ l.map wt, w.length ≤ 40000 := fun w hw => by
  obtain ⟨t, ht, rfl⟩ := List.mem_map.1 hw
  exact wt_len t (h t ht)
theorem idx_loop (l : List Api.Token) (hV : ∀ t ∈ l, t.Text.length ≤ 17000) {fuel : Nat} (hf : 20200 ≤ fuel) : ∀ (n i k : Nat) (c : List (List UInt8)), i + n = l.length → n + 1 ≤ k → c.length ≤ i → l.length ≤ 100000 →
    ∃ o, M.slices_IndexFunc_api_Token_Join_1_l1 fuel l k c i = some o ∧ (((l.drop i).all rt = true ∧ o = .inr (c ++ (l.drop i).map wt)) ∨ ((l.drop i).all rt = false ∧ ∃ (j : Nat) (c' : List (List UInt8)), o = .inl ((j : Int), c'))) := by
  intro n
  induction n with
  | zero =>
    intro i k c hi hk hc hl
    obtain ⟨g, rfl⟩ : ∃ g, k = g + 1 := ⟨k - 1, by omega⟩
    rw [M.slices_IndexFunc_api_Token_Join_1_l1, if_neg (show ¬ ltI (i : Int) (l.length : Int) = true from fun h => by have := ltT h; omega), List.drop_eq_nil_of_le (by omega)]
    exact ⟨_, rfl, .inl ⟨rfl, by simp⟩⟩
  | succ n ih =>
    intro i k c hi hk hc hl
    obtain ⟨g, rfl⟩ : ∃ g, k = g + 1 := ⟨k - 1, by omega⟩
    have hx : l[i]? = some l[i] := List.getElem?_eq_getElem (by omega)
    have hdc : l.drop i = l[i] :: l.drop (i + 1) := List.drop_eq_getElem_cons (by omega)
    have hm := hV l[i] (List.getElem_mem _)
    generalize l[i] = t at hx hdc hm
    rw [M.slices_IndexFunc_api_Token_Join_1_l1, if_pos (show ltI (i : Int) (l.length : Int) = true from decide_eq_true (by omega)), hx, hdc]
    simp only [obind]
    obtain ⟨w, w1, w2, w3⟩ := written_M t hm (fuel := fuel) hf
    rw [M.lexer_Join_1, w1]
    simp only [obind]
    rw [app_some (by decide) (by simp; omega)]
    simp only [obind, List.all_cons, List.map_cons]
    cases hr : rt t
    · simp only [Bool.not_false, if_true, Bool.false_and]
      exact ⟨_, rfl, .inr ⟨by first | rfl | trivial, i, _, rfl⟩⟩
    · simp only [Bool.not_true, Bool.false_eq_true, if_false, Bool.true_and]
      rw [w2 hr]
      obtain ⟨o, o1, o2⟩ := ih (i + 1) g (c ++ [wt t]) (by omega) (by omega) (by simp; omega) hl
      refine ⟨o, o1, ?_⟩
      rcases o2 with ⟨a, b⟩ | ⟨a, j, c', b⟩
      · exact .inl ⟨a, by rw [b]; simp⟩
      · exact .inr ⟨a, j, c', b⟩
theorem contains_M (l : List Api.Token) (hV : Vl l) {fuel : Nat} (hf : 40000 ≤ fuel) : ∃ v, M.slices_ContainsFunc_api_Token_Join_1 fuel l [] = some v ∧ v.1 = !(l.all rt) ∧ (l.all rt = true → v.2 = l.map wt) := by
  have hl := hV.1
  obtain ⟨o, o1, o2⟩ := idx_loop l hV.2 (fuel := fuel) (by omega) l.length 0 fuel [] (by omega) (by omega) (by simp) (by omega)
  rw [M.slices_ContainsFunc_api_Token_Join_1, M.slices_IndexFunc_api_Token_Join_1, o1]
  simp only [obind]
  rw [List.drop_zero] at o2
  rcases o2 with ⟨a, rfl⟩ | ⟨a, j, c', rfl⟩
  · exact ⟨(leI 0 (-1), [] ++ l.map wt), by first | rfl | trivial, by rw [a]; rfl, fun _ => by simp⟩
  · refine ⟨_, rfl, ?_, fun h => (by rw [a] at h; cases h)⟩
    rw [a]
    exact decide_eq_true (by show (0 : Int) ≤ (j : Int); omega)
theorem getLast_some {α : Type} (l : List α) (hl : l ≠ []) : l.getLast? = some (l.getLast hl) := by
  cases l with
  | nil => exact (hl rfl).elim
  | cons a t => rfl
theorem last_M (l : List Api.Token) : ((if ltI 0 (l.length : Int) = true then (idx l ((l.length : Int) - 1)).bind fun x6 => if eqI x6.Kind 8 = true then some (eqS x6.Text ([] : List UInt8)) else some false else some false : Option Bool)) =
    some (decide (cutEnd l ≠ l)) := by
  by_cases hl : l = []
  · subst hl; rfl
  have hpos : 0 < l.length := by
    cases l with
    | nil => exact (hl rfl).elim
    | cons _ _ => simp
  have hx : idx l ((l.length : Int) - 1) = some (l.getLast hl) := by
    rw [show ((l.length : Int) - 1) = ((l.length - 1 : Nat) : Int) by omega, idxN, List.getElem?_eq_getElem (by omega), List.getLast_eq_getElem]
  have hg : l.getLast? = some (l.getLast hl) := getLast_some _ hl
  rw [if_pos (show ltI 0 (l.length : Int) = true from decide_eq_true (by omega)), hx]
  simp only [obind]
  have hd : l.dropLast ≠ l := fun e => by have := congrArg List.length e; simp at this; omega
  have hc : cutEnd l = if (l.getLast hl).Kind = 8 ∧ (l.getLast hl).Text = [] then l.dropLast else l := by unfold cutEnd; rw [hg]
  generalize l.getLast hl = t at hc
  by_cases h8 : t.Kind = 8
  · rw [show eqI t.Kind 8 = true from decide_eq_true h8, if_pos rfl]
    by_cases h0 : t.Text = []
    · rw [if_pos ⟨h8, h0⟩] at hc
      rw [decide_eq_true (by rw [hc]; exact hd), show eqS t.Text [] = true from decide_eq_true h0]
    · rw [if_neg (fun e => h0 e.2)] at hc
      rw [decide_eq_false (by rw [hc]; simp), show eqS t.Text [] = false from decide_eq_false h0]
  · rw [if_neg (fun e => h8 e.1)] at hc
    rw [show eqI t.Kind 8 = false from decide_eq_false h8, decide_eq_false (by rw [hc]; simp)]
    rfl
theorem cut_take {l : List Api.Token} (h : cutEnd l ≠ l) : cutEnd l = l.take (l.length - 1) ∧ 1 ≤ l.length := by
  unfold cutEnd at h ⊢
  split at h
  · rename_i t ht
    split at h
    · rename_i h2
      rw [if_pos h2, List.dropLast_eq_take]
      refine ⟨rfl, ?_⟩
      cases l with
      | nil => cases ht
      | cons _ _ => simp
    · exact (h rfl).elim
  · exact (h rfl).elim
theorem join_tail (l : List Api.Token) (hV : Vl l) {fuel : Nat} (hf : 40000 ≤ fuel) : (if ltI 20000 (l.length : Int) = true then some (([] : List UInt8), (5 : Int)) else (mkC 16 (l.length : Int)).bind fun u54 => (M.slices_ContainsFunc_api_Token_Join_1 fuel l ([] : List (List UInt8))).bind fun v58 =>
      if v58.1 then some (([] : List UInt8), (3 : Int)) else (M.strings_Join v58.2 [32]).bind fun v61 => if ltI 16384 (v61.length : Int) then some (([] : List UInt8), (5 : Int)) else some (v61, 0)) = some (JN l) := by
  have hl := hV.1
  unfold JN
  by_cases h : 20000 < l.length
  · rw [if_pos (show ltI 20000 (l.length : Int) = true from decide_eq_true (by omega)), if_pos h]
  rw [if_neg (show ¬ ltI 20000 (l.length : Int) = true from fun e => by have := ltT e; omega), if_neg h, mkC, if_pos ⟨by omega, by omega, by omega⟩]
  simp only [obind]
  obtain ⟨v, v1, v2, v3⟩ := contains_M l hV hf
  rw [v1]
  simp only [obind, v2]
  cases ha : l.all rt
  · rfl
  · simp only [Bool.not_true, Bool.false_eq_true, if_false, if_true]
    rw [v3 ha]
    have hj := join_len (l.map wt) (wts_len hV.2)
    rw [List.length_map] at hj
    rw [M.strings_Join, if_pos ⟨by rw [List.length_map]; omega, by omega⟩]
    simp only [obind]
    by_cases hb : 16384 < (Lib.join (l.map wt) [32]).length
    · rw [if_pos (show ltI 16384 _ = true from decide_eq_true (by omega)), if_pos hb]
    · rw [if_neg (show ¬ ltI 16384 _ = true from fun e => by have := ltT e; omega), if_neg hb]
theorem Join_M (l : List Api.Token) (hV : Vl l) {fuel : Nat} (hf : 40000 ≤ fuel) : M.lexer_Join fuel l = some (JN (cutEnd l)) := by
  have hl := hV.1
  rw [M.lexer_Join, last_M]
  simp only [obind]
  by_cases hc : cutEnd l = l
  · rw [decide_eq_false (by simp [hc])]
    simp only [Bool.false_eq_true, if_false]
    rw [hc]
    exact join_tail l hV hf
  · obtain ⟨c1, c2⟩ := cut_take hc
    rw [decide_eq_true hc]
    simp only [if_true]
    rw [chk64 (by omega) (by omega)]
    simp only [obind]
    rw [show ((l.length : Int) - 1) = ((l.length - 1 : Nat) : Int) by omega, subTg l (l.length - 1) (by omega)]
    simp only [obind]
    rw [← c1]
    exact join_tail (cutEnd l) (cutEnd_V hV) hf
theorem R1_loop (l : List Api.Token) (hV : ∀ t ∈ l, t.Text.length ≤ 17000) {fuel : Nat} (hf : 20200 ≤ fuel) (m : Nat) (hm : m ≤ l.length) : ∀ (n i k : Nat), i + n = m → n + 1 ≤ k → M.ref02_Join_l1 fuel l (m : Int) k i = some (if ((l.take m).drop i).all rt = true then .inr () else .inl ([], 3)) := by
  intro n
  induction n with
  | zero =>
    intro i k hi hk
    obtain ⟨g, rfl⟩ : ∃ g, k = g + 1 := ⟨k - 1, by omega⟩
    rw [M.ref02_Join_l1, if_neg (show ¬ ltI (i : Int) (m : Int) = true from fun h => by have := ltT h; omega), List.drop_eq_nil_of_le (by simp; omega)]
    rfl
  | succ n ih =>
    intro i k hi hk
    obtain ⟨g, rfl⟩ : ∃ g, k = g + 1 := ⟨k - 1, by omega⟩
    have hx : l[i]? = some l[i] := List.getElem?_eq_getElem (by omega)
    have hdc : (l.take m).drop i = l[i] :: (l.take m).drop (i + 1) := by
      rw [List.drop_eq_getElem_cons (by simp; omega)]; simp
    have hmm := hV l[i] (List.getElem_mem _)
    generalize l[i] = t at hx hdc hmm
    rw [M.ref02_Join_l1, if_pos (show ltI (i : Int) (m : Int) = true from decide_eq_true (by omega)), hx, hdc, List.all_cons]
    simp only [obind]
    rw [Right_M t hmm hf]
    simp only [obind]
    cases rt t
    · rfl
    · simp only [Bool.not_true, Bool.false_eq_true, if_false, Bool.true_and]
      exact ih (i + 1) g (by omega) (by omega)
def fl : Bool → List UInt8 → List (List UInt8) → List UInt8
  | _, out, [] => out
  | b, out, w :: ws => fl false ((if b then out else out ++ [32]) ++ w) ws
theorem fl_tail : ∀ (ws : List (List UInt8)) (out : List UInt8), fl false out ws = out ++ Lib.joinTail [32] ws
  | [], out => by simp [fl, Lib.joinTail]
  | w :: ws, out => by
    rw [fl, fl_tail ws]
    simp [Lib.joinTail]
theorem fl_join (ws : List (List UInt8)) : fl true [] ws = Lib.join ws [32] := by
  cases ws with
  | nil => rfl
  | cons w ws => rw [fl, fl_tail, Lib.join_cons]; simp
theorem fl_ge : ∀ (ws : List (List UInt8)) (b : Bool) (out : List UInt8), out.length ≤ (fl b out ws).length
  | [], b, out => Nat.le_refl _
  | w :: ws, b, out => by
    rw [fl]
    refine Nat.le_trans ?_ (fl_ge ws false _)
    cases b <;> simp <;> omega
theorem R2_loop (l : List Api.Token) (hV : ∀ t ∈ l, t.Text.length ≤ 17000) {fuel : Nat} (hf : 20200 ≤ fuel) (m : Nat) (hm : m ≤ l.length) : ∀ (n i k : Nat) (out : List UInt8), i + n = m → n + 1 ≤ k → out.length ≤ 100000 →
    ∃ o, M.ref02_Join_l2 fuel l (m : Int) k out i = some o ∧ (o = fl (decide (i = 0)) out (((l.take m).drop i).map wt) ∨ (16384 < o.length ∧ 16384 < (fl (decide (i = 0)) out (((l.take m).drop i).map wt)).length)) := by
  intro n
  induction n with
  | zero =>
    intro i k out hi hk ho
    obtain ⟨g, rfl⟩ : ∃ g, k = g + 1 := ⟨k - 1, by omega⟩
    rw [M.ref02_Join_l2, show ltI (i : Int) (m : Int) = false from decide_eq_false (by omega), List.drop_eq_nil_of_le (by simp; omega)]
    exact ⟨out, rfl, .inl rfl⟩
  | succ n ih =>
    intro i k out hi hk ho
    obtain ⟨g, rfl⟩ : ∃ g, k = g + 1 := ⟨k - 1, by omega⟩
    have hx : l[i]? = some l[i] := List.getElem?_eq_getElem (by omega)
    have hdc : (l.take m).drop i = l[i] :: (l.take m).drop (i + 1) := by
      rw [List.drop_eq_getElem_cons (by simp; omega)]; simp
    have hmm := hV l[i] (List.getElem_mem _)
    generalize l[i] = t at hx hdc hmm
    rw [M.ref02_Join_l2, show ltI (i : Int) (m : Int) = true from decide_eq_true (by omega), hx, hdc, List.map_cons]
    by_cases hb : 16384 < out.length
    · rw [show leI (out.length : Int) 16384 = false from decide_eq_false (by omega)]
      exact ⟨out, rfl, .inr ⟨hb, Nat.lt_of_lt_of_le hb (fl_ge _ _ _)⟩⟩
    rw [show leI (out.length : Int) 16384 = true from decide_eq_true (by omega)]
    simp only [Bool.and_self, if_true, obind]
    have hwl := wt_len t hmm
    have q : ∀ b : List UInt8, b.length ≤ 20000 → (if eqI t.Kind 5 = true then (M.ref02_Quote fuel t.Text).bind fun v71 => (cat b v71).bind fun s73 => M.ref02_Join_l2 fuel l (m : Int) g s73 (i + 1) else (cat b t.Text).bind fun s80 => M.ref02_Join_l2 fuel l (m : Int) g s80 (i + 1)) = M.ref02_Join_l2 fuel l (m : Int) g (b ++ wt t) (i + 1) := by
      intro b hbl
      unfold wt at hwl ⊢
      by_cases h5 : t.Kind = 5
      · rw [if_pos h5] at hwl
        rw [if_pos (show eqI t.Kind 5 = true from decide_eq_true h5), RQuote_M _ (by omega) (by omega), if_pos h5]
        simp only [obind]
        rw [cat, if_pos (by omega)]
        rfl
      · rw [if_neg h5] at hwl
        rw [if_neg (show ¬ eqI t.Kind 5 = true from fun e => h5 (eqT e)), cat, if_pos (by omega), if_neg h5]
        rfl
    have nz : decide (i + 1 = 0) = false := by simp
    by_cases h0 : i = 0
    · rw [show ltI 0 (i : Int) = false from decide_eq_false (by omega)]
      simp only [Bool.false_eq_true, if_false]
      rw [q out (by omega)]
      have := ih (i + 1) g (out ++ wt t) (by omega) (by omega) (by simp; omega)
      rw [nz] at this
      rw [decide_eq_true h0, fl, if_pos rfl]
      exact this
    · rw [show ltI 0 (i : Int) = true from decide_eq_true (by omega)]
      simp only [if_true]
      rw [cat, if_pos (by simp; omega)]
      simp only [obind]
      rw [q (out ++ [32]) (by simp; omega)]
      have := ih (i + 1) g (out ++ [32] ++ wt t) (by omega) (by omega) (by simp; omega)
      rw [nz] at this
      rw [decide_eq_false h0, fl, if_neg (by simp)]
      exact this
theorem l3_eq (fuel : Nat) (l : List Api.Token) : ∀ (k i : Nat), M.ref02_Join_l3 fuel l k i = M.ref02_Join_l1 fuel l (l.length : Int) k i := by
  intro k
  induction k with
  | zero => intro i; rfl
  | succ k ih => intro i; rw [M.ref02_Join_l3, M.ref02_Join_l1]; simp only [ih]
theorem l4_eq (fuel : Nat) (l : List Api.Token) : ∀ (k : Nat) (out : List UInt8) (i : Nat), M.ref02_Join_l4 fuel l k out i = M.ref02_Join_l2 fuel l (l.length : Int) k out i := by
  intro k
  induction k with
  | zero => intro out i; rfl
  | succ k ih => intro out i; rw [M.ref02_Join_l4, M.ref02_Join_l2]; simp only [ih]
theorem ref_tail (l : List Api.Token) (hV : Vl l) {fuel : Nat} (hf : 40000 ≤ fuel) (m : Nat) (hm : m ≤ l.length) : (if ltI 20000 (m : Int) = true then some (([] : List UInt8), (5 : Int)) else
      (M.ref02_Join_l1 fuel l (m : Int) fuel 0).bind fun o => Sum.elim some (fun o28 => (M.ref02_Join_l2 fuel l (m : Int) fuel ([] : List UInt8) 0).bind fun o48 => if ltI 16384 (o48.length : Int) then some (([] : List UInt8), (5 : Int)) else some (o48, 0)) o) = some (JN (l.take m)) := by
  have hl := hV.1
  have htl : (l.take m).length = m := by simp; omega
  unfold JN
  rw [htl]
  by_cases h : 20000 < m
  · rw [if_pos (show ltI 20000 (m : Int) = true from decide_eq_true (by omega)), if_pos h]
  rw [if_neg (show ¬ ltI 20000 (m : Int) = true from fun e => by have := ltT e; omega), if_neg h, R1_loop l hV.2 (by omega) m hm m 0 fuel (by omega) (by omega), List.drop_zero]
  simp only [obind]
  cases ha : (l.take m).all rt
  · rfl
  · simp only [if_true, Sum.elim_inr]
    obtain ⟨o, o1, o2⟩ := R2_loop l hV.2 (fuel := fuel) (by omega) m hm m 0 fuel [] (by omega) (by omega) (by simp)
    rw [o1]
    simp only [obind]
    rw [List.drop_zero, decide_eq_true rfl, fl_join] at o2
    rcases o2 with rfl | ⟨a, b⟩
    · by_cases hb : 16384 < (Lib.join ((l.take m).map wt) [32]).length
      · rw [if_pos (show ltI 16384 _ = true from decide_eq_true (by omega)), if_pos hb]
      · rw [if_neg (show ¬ ltI 16384 _ = true from fun e => by have := ltT e; omega), if_neg hb]
    · rw [if_pos (show ltI 16384 _ = true from decide_eq_true (by omega)), if_pos b]
theorem RJoin_M (l : List Api.Token) (hV : Vl l) {fuel : Nat} (hf : 40000 ≤ fuel) : M.ref02_Join fuel l = some (JN (cutEnd l)) := by
  have hl := hV.1
  rw [M.ref02_Join, last_M]
  simp only [obind, l3_eq, l4_eq]
  by_cases hc : cutEnd l = l
  · rw [decide_eq_false (by simp [hc])]
    simp only [Bool.false_eq_true, if_false]
    rw [hc]
    have := ref_tail l hV hf l.length (Nat.le_refl _)
    rw [List.take_length] at this
    exact this
  · obtain ⟨c1, c2⟩ := cut_take hc
    rw [decide_eq_true hc]
    simp only [if_true]
    rw [chk64 (by omega) (by omega)]
    simp only [obind]
    rw [show ((l.length : Int) - 1) = ((l.length - 1 : Nat) : Int) by omega, c1]
    exact ref_tail l hV hf (l.length - 1) (by omega)
theorem many1_M (t : Api.Token) : M.law02_many_1 t = some (if ltI 300 (t.Text.length : Int) then (leI (t.Text.length : Int) 16384) || (ltI 17000 (t.Text.length : Int)) else ltI 17000 (t.Text.length : Int)) := rfl
theorem many_loop (l : List Api.Token) : ∀ (n i k : Nat), i + n = l.length → n + 1 ≤ k → ∃ o, M.slices_IndexFunc_api_Token_many_1_l1 l k i = some o ∧ (o = .inr () ∧ (∀ t ∈ l.drop i, t.Text.length ≤ 17000) ∨ ∃ j : Nat, o = .inl (j : Int)) := by
  intro n
  induction n with
  | zero =>
    intro i k hi hk
    obtain ⟨g, rfl⟩ : ∃ g, k = g + 1 := ⟨k - 1, by omega⟩
    rw [M.slices_IndexFunc_api_Token_many_1_l1, if_neg (show ¬ ltI (i : Int) (l.length : Int) = true from fun h => by have := ltT h; omega), List.drop_eq_nil_of_le (by omega)]
    exact ⟨_, rfl, .inl ⟨rfl, by simp⟩⟩
  | succ n ih =>
    intro i k hi hk
    obtain ⟨g, rfl⟩ : ∃ g, k = g + 1 := ⟨k - 1, by omega⟩
    have hx : l[i]? = some l[i] := List.getElem?_eq_getElem (by omega)
    have hdc : l.drop i = l[i] :: l.drop (i + 1) := List.drop_eq_getElem_cons (by omega)
    generalize l[i] = t at hx hdc
    rw [M.slices_IndexFunc_api_Token_many_1_l1, if_pos (show ltI (i : Int) (l.length : Int) = true from decide_eq_true (by omega)), hx, hdc]
    simp only [obind, many1_M]
    by_cases hb : 17000 < t.Text.length
    · have e : (if ltI 300 (t.Text.length : Int) then (leI (t.Text.length : Int) 16384) || (ltI 17000 (t.Text.length : Int)) else ltI 17000 (t.Text.length : Int)) = true := by
        rw [show ltI 17000 (t.Text.length : Int) = true from decide_eq_true (by omega), Bool.or_true]; simp
      rw [e]
      exact ⟨_, rfl, .inr ⟨i, rfl⟩⟩
    cases (if ltI 300 (t.Text.length : Int) then (leI (t.Text.length : Int) 16384) || (ltI 17000 (t.Text.length : Int)) else ltI 17000 (t.Text.length : Int))
    · simp only [Bool.false_eq_true, if_false]
      obtain ⟨o, o1, o2⟩ := ih (i + 1) g (by omega) (by omega)
      refine ⟨o, o1, ?_⟩
      rcases o2 with ⟨a, b⟩ | h
      · exact .inl ⟨a, fun x hx' => by
          rcases List.mem_cons.1 hx' with rfl | h
          · omega
          · exact b x h⟩
      · exact .inr h
    · exact ⟨_, rfl, .inr ⟨i, rfl⟩⟩
theorem many_M (l : List Api.Token) {fuel : Nat} (hf : 20200 ≤ fuel) : M.law02_many fuel l = some true ∨ (M.law02_many fuel l = some false ∧ Vl l) := by
  rw [M.law02_many]
  by_cases h2 : 20100 < l.length
  · left
    have a : ltI 60 (l.length : Int) = true := decide_eq_true (by omega)
    have b : leI (l.length : Int) 20000 = false := decide_eq_false (by omega)
    have c : ltI 20100 (l.length : Int) = true := decide_eq_true (by omega)
    rw [a, b, c]; rfl
  have c : ltI 20100 (l.length : Int) = false := decide_eq_false (by omega)
  rw [c]
  obtain ⟨o, o1, o2⟩ := many_loop l l.length 0 fuel (by omega) (by omega)
  have hc : M.slices_ContainsFunc_api_Token_many_1 fuel l = some true ∨ (M.slices_ContainsFunc_api_Token_many_1 fuel l = some false ∧ Vl l) := by
    rw [M.slices_ContainsFunc_api_Token_many_1, M.slices_IndexFunc_api_Token_many_1, o1]
    rcases o2 with ⟨rfl, h⟩ | ⟨j, rfl⟩
    · right; exact ⟨rfl, by omega, by simpa using h⟩
    · left
      simp only [obind, Sum.elim_inl]
      exact congrArg some (decide_eq_true (by omega))
  cases ltI 60 (l.length : Int)
  · simp only [Bool.false_eq_true, if_false, obind]
    rcases hc with h | ⟨h, hv⟩
    · left; rw [h]; rfl
    · right; rw [h]; exact ⟨rfl, hv⟩
  · cases leI (l.length : Int) 20000
    · simp only [Bool.false_eq_true, if_false, if_true, obind]
      rcases hc with h | ⟨h, hv⟩
      · left; rw [h]; rfl
      · right; rw [h]; exact ⟨rfl, hv⟩
    · left; rfl
theorem LexerJoins_true (l : List Api.Token) (_ : l.length * 40 ≤ 140737488351232 ∧ ∀ x ∈ l, (fun _ => True) x) : ∃ fuel, M.law02_LexerJoins fuel l = some true := by
  refine ⟨50000, ?_⟩
  rw [M.law02_LexerJoins, awake_M (by omega)]
  simp only [obind, Bool.not_true, Bool.false_eq_true, if_false]
  rcases many_M l (fuel := 50000) (by omega) with h | ⟨h, hV⟩
  · rw [h]; rfl
  · rw [h, Join_M l hV (by omega), RJoin_M l hV (by omega)]
    simp only [obind, Bool.false_eq_true, if_false]
    rw [show eqS (JN (cutEnd l)).1 (JN (cutEnd l)).1 = true from decide_eq_true rfl, show eqI (JN (cutEnd l)).2 (JN (cutEnd l)).2 = true from decide_eq_true rfl]
    rfl
theorem rt_tk {t : Api.Token} (h : rt t = true) : tk (wt t) = some (t.Kind, t.Text, []) := by
  unfold rt at h
  unfold wt
  by_cases h5 : t.Kind = 5
  · rw [if_pos h5] at h ⊢
    rw [Bool.and_eq_true] at h
    rw [tk.eq_def]
    dsimp only
    rw [if_neg (by decide), if_neg (by decide), if_neg (by decide), if_pos rfl]
    have := lt_qs [] t.Text h.2
    rw [this, h5]; rfl
  · rw [if_neg h5] at h ⊢
    exact of_decide_eq_true h
theorem join_Toks : ∀ ts : List Api.Token, ts.all rt = true → ∃ L, Toks (Lib.join (ts.map wt) [32]) (L ++ [(8, [], [])]) ∧ (L.map fun q => (q.1, q.2.1)) = ts.map kt
  | [], _ => ⟨[], .done (by rw [List.map_nil, Lib.join_nil, skp_nil]), rfl⟩
  | t :: ts, h => by
    rw [List.all_cons, Bool.and_eq_true] at h
    obtain ⟨L, l1, l2⟩ := join_Toks ts h.2
    have hk := rt_tk h.1
    obtain ⟨_, _, hne, hs, _⟩ := tk_cases hk
    have h1 : Toks (wt t) [(t.Kind, t.Text, wt t), (8, [], [])] := .next hs hne hk (.done skp_nil)
    rw [List.map_cons, Lib.join_cons]
    have hu : bd (Lib.joinTail [32] (ts.map wt)) ∧ Toks (Lib.joinTail [32] (ts.map wt)) (L ++ [(8, [], [])]) := by
      cases ts with
      | nil => exact ⟨trivial, l1⟩
      | cons t2 ts =>
        have e : Lib.joinTail [32] ((t2 :: ts).map wt) = 32 :: Lib.join ((t2 :: ts).map wt) [32] := by
          rw [List.map_cons, Lib.join_cons]; simp [Lib.joinTail]
        rw [e]
        exact ⟨.inl rfl, Toks.skip (skp_blank rfl) l1⟩
    have := Toks.ext _ hu.1 hu.2 h1
    refine ⟨(t.Kind, t.Text, wt t ++ Lib.joinTail [32] (ts.map wt)) :: L, this, ?_⟩
    rw [List.map_cons, l2]; rfl
theorem again_M (l : List Api.Token) (hV : Vl l) {fuel : Nat} (hf : 40000 ≤ fuel) : M.law02_LexerBack_1 fuel l = some true := by
  have hl := hV.1
  rw [M.law02_LexerBack_1, Join_M l hV hf]
  simp only [obind]
  by_cases he : (JN (cutEnd l)).2 = 0
  case neg =>
    rw [show eqI (JN (cutEnd l)).2 0 = false from decide_eq_false he]
    simp only [Bool.not_false, if_true]
    have : (JN (cutEnd l)).1 = [] := by
      unfold JN at he ⊢
      split
      · rfl
      · split
        · split
          · rfl
          · rename_i h1 h2 h3; rw [if_neg h1, if_pos h2, if_neg h3] at he; exact (he rfl).elim
        · rfl
    rw [this]; rfl
  rw [show eqI (JN (cutEnd l)).2 0 = true from decide_eq_true he]
  simp only [Bool.not_true, Bool.false_eq_true, if_false]
  have hJ : (cutEnd l).all rt = true ∧ (Lib.join ((cutEnd l).map wt) [32]).length ≤ 16384 ∧ (JN (cutEnd l)).1 = Lib.join ((cutEnd l).map wt) [32] := by
    unfold JN at he ⊢
    by_cases h1 : 20000 < (cutEnd l).length
    · rw [if_pos h1] at he; exact absurd he (by decide)
    · rw [if_neg h1] at he ⊢
      by_cases h2 : (cutEnd l).all rt = true
      · rw [if_pos h2] at he ⊢
        by_cases h3 : 16384 < (Lib.join ((cutEnd l).map wt) [32]).length
        · rw [if_pos h3] at he; exact absurd he (by decide)
        · rw [if_neg h3]; exact ⟨h2, by omega, rfl⟩
      · rw [if_neg h2] at he; exact absurd he (by decide)
  obtain ⟨j1, j2, j3⟩ := hJ
  rw [j3]
  obtain ⟨L, l1, l2⟩ := join_Toks _ j1
  obtain ⟨r, r1, r2⟩ := tokens_spec (Lib.join ((cutEnd l).map wt) [32]) j2 (fuel := fuel) (by omega)
  rw [r1]
  simp only [obind]
  rcases r2 with ⟨e0, L', t1, t2⟩ | ⟨e0, _, t1, _⟩
  case inr => exact (t1 _ l1).elim
  have := t1.inj l1
  subst this
  have hLl : L.length = (cutEnd l).length := by have := congrArg List.length l2; simpa using this
  have hcl : (cutEnd l).length ≤ 20100 := (cutEnd_V hV).1
  have hrl : r.1.length = L.length + 1 := by rw [t2]; simp
  rw [show eqI r.2.2 0 = true from decide_eq_true e0, show eqI (r.1.length : Int) 0 = false from decide_eq_false (by omega)]
  simp only [Bool.not_true, Bool.false_eq_true, if_false]
  have hc : chk .i64 ((r.1.length : Int) - 1) = some ((L.length : Nat) : Int) := by rw [chk64 (by omega) (by omega)]; congr 1; omega
  rw [hc]
  simp only [obind]
  have hx : idx r.1 ((L.length : Nat) : Int) = some (tokOf (Lib.join ((cutEnd l).map wt) [32]) (8, [], [])) := by
    rw [idxN, t2, List.map_append, List.getElem?_append_right (by simp)]
    simp
  rw [hx]
  simp only [obind]
  rw [show eqI (tokOf (Lib.join ((cutEnd l).map wt) [32]) (8, [], [])).Kind 8 = true from rfl]
  simp only [Bool.not_true, Bool.false_eq_true, if_false]
  rw [subTg r.1 L.length (by omega)]
  have hkt : (cutEnd l).map kt = (r.1.take L.length).map kt := by
    rw [List.map_take, t2, ktMap, List.map_append, l2.symm]
    simp
  by_cases hle : l = []
  · subst hle
    have : cutEnd [] = [] := rfl
    rw [this] at hkt
    simp only [List.length_nil]
    rw [show ltI 0 ((0 : Nat) : Int) = false from rfl]
    simp only [Bool.false_eq_true, if_false, obind]
    rw [SameF_M _ _ hkt (by simp; omega)]
    rfl
  have hpos : 0 < l.length := by
    cases l with
    | nil => exact (hle rfl).elim
    | cons _ _ => simp
  have hlx : idx l ((l.length : Int) - 1) = some (l.getLast hle) := by
    rw [show ((l.length : Int) - 1) = ((l.length - 1 : Nat) : Int) by omega, idxN, List.getElem?_eq_getElem (by omega), List.getLast_eq_getElem]
  have hg : l.getLast? = some (l.getLast hle) := getLast_some _ hle
  rw [show ltI 0 (l.length : Int) = true from decide_eq_true (by omega), hlx]
  simp only [if_true, obind]
  by_cases h8 : (l.getLast hle).Kind = 8
  · rw [show eqI (l.getLast hle).Kind 8 = true from decide_eq_true h8]
    have hce : cutEnd l = l.dropLast := by
      unfold cutEnd
      rw [hg]
      dsimp only
      by_cases h0 : (l.getLast hle).Text = []
      · rw [if_pos ⟨h8, h0⟩]
      · exfalso
        have : cutEnd l = l := by unfold cutEnd; rw [hg]; dsimp only; rw [if_neg (fun e => h0 e.2)]
        rw [this] at j1
        have hr := (List.all_eq_true.1 j1) _ (List.getLast_mem hle)
        unfold rt at hr
        rw [if_neg (by rw [h8]; decide)] at hr
        have := (tk_cases (of_decide_eq_true hr)).1
        omega
    simp only [if_true]
    rw [chk64 (by omega) (by omega)]
    simp only [obind]
    rw [show ((l.length : Int) - 1) = ((l.length - 1 : Nat) : Int) by omega, subTg l (l.length - 1) (by omega)]
    simp only [obind]
    rw [← List.dropLast_eq_take, ← hce, SameF_M _ _ hkt (by omega)]
    rfl
  · rw [show eqI (l.getLast hle).Kind 8 = false from decide_eq_false h8]
    have hce : cutEnd l = l := by
      unfold cutEnd
      rw [hg]
      dsimp only
      rw [if_neg (fun e => h8 e.1)]
    simp only [Bool.false_eq_true, if_false, obind]
    rw [hce] at hkt
    rw [SameF_M _ _ hkt (by omega)]
    rfl
theorem tk_text {s x r : List UInt8} {k : Int} (hs : s.length ≤ 100000) (h : tk s = some (k, x, r)) : x.length ≤ s.length := by
  by_cases h5 : k = 5
  · subst h5
    match s, h with
    | [], h => simp [tk] at h
    | c :: t, h =>
      obtain ⟨L, l1, l2⟩ := token_spec (c :: t) hs 0 (by simp) (fuel := (c :: t).length + 100) (Nat.le_refl _)
      rw [tk.eq_def] at h
      dsimp only at h
      split at h
      · split at h
        · cases h
        · simp only [Option.some.injEq, Prod.mk.injEq] at h; rw [← h.2.1, List.length_take]; omega
      split at h
      · split at h
        · cases h
        · split at h
          · split at h
            · cases h
            · simp only [Option.some.injEq, Prod.mk.injEq] at h; rw [← h.2.1, List.length_take]; omega
          · cases h
      split at h
      · split at h
        · simp only [Option.some.injEq, Prod.mk.injEq] at h; rw [← h.2.1, List.length_take]; omega
        · cases h
      split at h
      · cases hl : lt t with
        | none => rw [hl] at h; cases h
        | some q =>
          obtain ⟨m, rest⟩ := q
          rw [hl] at h
          simp only [Option.map_some, Option.some.injEq, Prod.mk.injEq] at h
          obtain ⟨_, rfl, rfl⟩ := h
          obtain ⟨_, a2⟩ := lt_sound _ t _ _ (Nat.le_refl _) hl
          have := qs_ge m
          rw [a2]
          simp
          omega
      · split at h
        · cases h
        · simp only [Option.some.injEq, Prod.mk.injEq] at h
          obtain ⟨_, y2, _⟩ := Symbol_sy c t (fuel := 40) (Nat.le_refl _)
          rw [← h.2.1]; exact y2
  · have := (tk_cases h).2.1 h5
    rw [this]; simp
theorem Toks.texts {s : List UInt8} {l : List (Int × List UInt8 × List UInt8)} (hs : s.length ≤ 100000) (h : Toks s l) : ∀ q ∈ l, q.2.1.length ≤ s.length := by
  induction h with
  | done h => intro q hq; simp at hq; subst hq; simp
  | next h h1 h2 h3 ih =>
    have a1 := skp_len hs h
    have a2 := tk_len (by omega) h2
    have a3 := tk_text (by omega) h2
    intro q hq
    rcases List.mem_cons.1 hq with rfl | hq
    · dsimp only; omega
    · have := ih (by omega) q hq; omega
theorem LexerBack_true (l : List Api.Token) (s : List UInt8) (_ : l.length * 40 ≤ 140737488351232 ∧ ∀ x ∈ l, (fun _ => True) x) (_ : s.length ≤ 140737488351232) : ∃ fuel, M.law02_LexerBack fuel l s = some true := by
  refine ⟨50000, ?_⟩
  rw [M.law02_LexerBack, awake_M (by omega)]
  simp only [obind, Bool.not_true, Bool.false_eq_true, if_false]
  rcases many_M l (fuel := 50000) (by omega) with h | ⟨h, hV⟩
  · rw [h]; rfl
  rw [h, M.law02_long]
  simp only [obind, Bool.false_eq_true, if_false]
  have fin : ((M.lexer_Tokens 50000 s).bind fun v21 => (if !(eqI v21.2.2 0) then if eqI (v21.1.length : Int) 0 then some true else some false else (M.law02_LexerBack_1 50000 v21.1).bind fun v31 => some v31 : Option Bool).bind fun b33 => some b33) = some true ∨ 16384 < s.length := by
    by_cases hs : 16384 < s.length
    · exact .inr hs
    left
    obtain ⟨r, r1, r2⟩ := tokens_spec s (by omega) (fuel := 50000) (by omega)
    rw [r1]
    simp only [obind]
    rcases r2 with ⟨e0, L, t1, t2⟩ | ⟨e0, t1, _⟩
    · rw [show eqI r.2.2 0 = true from decide_eq_true e0]
      simp only [Bool.not_true, Bool.false_eq_true, if_false]
      have hl := t1.len (by omega)
      have hx := t1.texts (by omega)
      rw [again_M r.1 ⟨by rw [t2, List.length_map]; omega, fun t ht => by
        rw [t2] at ht
        obtain ⟨q, hq, rfl⟩ := List.mem_map.1 ht
        have := hx q hq
        show q.2.1.length ≤ 17000
        omega⟩ (by omega)]
      rfl
    · rw [show eqI r.2.2 0 = false from decide_eq_false e0, t1]
      rfl
  by_cases hs : 16384 < s.length
  · have hT : M.lexer_Tokens 50000 s = some ([], Api.Pos.mk 0 0, 5) := by rw [M.lexer_Tokens, if_pos (show ltI 16384 (s.length : Int) = true from decide_eq_true (by omega))]
    generalize hb : (if ltI 1500 (s.length : Int) then (leI (s.length : Int) 16384) || (ltI 20000 (s.length : Int)) else ltI 20000 (s.length : Int)) = b
    cases b
    · simp only [Bool.false_eq_true, if_false]
      rw [again_M l hV (by omega), hT]
      rfl
    · rfl
  · have fin' := fin.resolve_right hs
    generalize hb : (if ltI 1500 (s.length : Int) then (leI (s.length : Int) 16384) || (ltI 20000 (s.length : Int)) else ltI 20000 (s.length : Int)) = b
    cases b
    · simp only [Bool.false_eq_true, if_false]
      rw [again_M l hV (by omega)]
      simp only [obind, Bool.not_true, Bool.false_eq_true, if_false]
      exact fin'
    · rfl
end Go.Proofs.Ythbjlmoaceaeeaa
