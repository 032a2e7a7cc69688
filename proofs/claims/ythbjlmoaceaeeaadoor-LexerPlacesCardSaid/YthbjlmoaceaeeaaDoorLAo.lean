/- For every input the law LexerPlaces returns true. Part 15 of 18. No condition. -/
import Derived.Test.YthbjlmoaceaeeaaDoorLAn
import Derived.Lib.IndexLaws
set_option linter.unusedVariables false
set_option linter.unusedSimpArgs false
namespace Go.Proofs.YthbjlmoaceaeeaaDoor
open Go Go.Abs
def kt (t : Api.Token) : Int × List UInt8 := (t.Kind, t.Text)
theorem SameF_loop (l l' : List Api.Token) (h : l.map kt = l'.map kt) : ∀ (n i k : Nat), i + n = l.length → n + 1 ≤ k → M.ref02_Same_l1 l l' false k i = some (.inr ()) := by
  intro n
  induction n with
  | zero =>
    intro i k hi hk
    obtain ⟨g, rfl⟩ : ∃ g, k = g + 1 := ⟨k - 1, by omega⟩
    rw [M.ref02_Same_l1, if_neg (show ¬ ltI (i : Int) (l.length : Int) = true from fun h => by have := ltT h; omega)]
  | succ n ih =>
    intro i k hi hk
    obtain ⟨g, rfl⟩ : ∃ g, k = g + 1 := ⟨k - 1, by omega⟩
    have hll : l.length = l'.length := by have := congrArg List.length h; simpa using this
    have hx : l[i]? = some l[i] := List.getElem?_eq_getElem (by omega)
    have hy : l'[i]? = some l'[i] := List.getElem?_eq_getElem (by omega)
    have he : kt l[i] = kt l'[i] := by
      have := congrArg (fun z => z[i]?) h
      simp only [List.getElem?_map, hx, hy, Option.map_some, Option.some.injEq] at this
      exact this
    generalize l[i] = t at hx he
    generalize l'[i] = t' at hy he
    simp only [kt, Prod.mk.injEq] at he
    have r1 : eqI t.Kind t'.Kind = true := decide_eq_true he.1
    have r2 : eqS t.Text t'.Text = true := decide_eq_true he.2
    rw [M.ref02_Same_l1, if_pos (show ltI (i : Int) (l.length : Int) = true from decide_eq_true (by omega)), hx, hy]
    simp only [obind, r1, r2, Bool.not_true, Bool.false_eq_true, if_false]
    exact ih (i + 1) g (by omega) (by omega)
theorem SameF_M (l l' : List Api.Token) (h : l.map kt = l'.map kt) {fuel : Nat} (hf : l.length + 1 ≤ fuel) : M.ref02_Same fuel l l' false = some true := by
  have hll : l.length = l'.length := by have := congrArg List.length h; simpa using this
  rw [M.ref02_Same, show eqI (l.length : Int) (l'.length : Int) = true from decide_eq_true (by omega), SameF_loop l l' h l.length 0 fuel (by omega) hf]
  rfl
theorem Concat2 (A B : List Api.Token) {fuel : Nat} (hf : 3 ≤ fuel) (hl : A.length + B.length ≤ 100000) : M.slices_Concat_api_Token fuel [A, B] = some (A ++ B) := by
  obtain ⟨g, rfl⟩ : ∃ g, fuel = g + 1 + 1 + 1 := ⟨fuel - 3, by omega⟩
  have t0 : ltI ((0 : Nat) : Int) (([A, B] : List (List Api.Token)).length : Int) = true := rfl
  have t1 : ltI ((0 + 1 : Nat) : Int) (([A, B] : List (List Api.Token)).length : Int) = true := rfl
  have t2 : ltI ((0 + 1 + 1 : Nat) : Int) (([A, B] : List (List Api.Token)).length : Int) = false := rfl
  rw [M.slices_Concat_api_Token, M.slices_Concat_api_Token_l1, t0]
  simp only [if_true, List.getElem?_cons_zero, obind]
  rw [chk64 (by omega) (by omega)]
  simp only [obind]
  rw [if_neg (show ¬ ltI (0 + (A.length : Int)) 0 = true from fun h => by have := ltT h; omega), M.slices_Concat_api_Token_l1, t1]
  simp only [if_true, List.getElem?_cons_zero, List.getElem?_cons_succ, Nat.zero_add, obind]
  rw [chk64 (by omega) (by omega)]
  simp only [obind]
  rw [if_neg (show ¬ ltI (0 + (A.length : Int) + (B.length : Int)) 0 = true from fun h => by have := ltT h; omega), M.slices_Concat_api_Token_l1, show ltI ((1 + 1 : Nat) : Int) (([A, B] : List (List Api.Token)).length : Int) = false from t2]
  simp only [Bool.false_eq_true, if_false, obind]
  rw [growC, if_pos ⟨by omega, by omega⟩]
  simp only [obind]
  rw [M.slices_Concat_api_Token_l2, t0]
  simp only [if_true, List.getElem?_cons_zero, obind]
  rw [app_some (by decide) (by simp; omega)]
  simp only [obind]
  rw [M.slices_Concat_api_Token_l2, t1]
  simp only [if_true, List.getElem?_cons_zero, List.getElem?_cons_succ, Nat.zero_add, obind]
  rw [app_some (by decide) (by simp; omega)]
  simp only [obind]
  rw [M.slices_Concat_api_Token_l2, show ltI ((1 + 1 : Nat) : Int) (([A, B] : List (List Api.Token)).length : Int) = false from t2]
  simp
theorem subTg {α : Type} (s : List α) (n : Nat) (h : n ≤ s.length) : subC s 0 (n : Int) = some (s.take n) := by
  rw [subC, if_pos ⟨by omega, by omega, by omega⟩]
  simp [sub]
theorem Toks.skip {u t : List UInt8} {l : List (Int × List UInt8 × List UInt8)} (h : skp u = skp t) (h2 : Toks t l) : Toks u l := by
  cases h2 with
  | done g => exact .done (h.trans g)
  | next g g1 g2 g3 => exact .next (h.trans g) g1 g2 g3
def BTW : List (List UInt8) := [[32], [10], [9, 10, 32], [32, 40, 42, 42, 41, 32], [40, 42, 32, 97, 32, 40, 42, 32, 34, 98, 32, 42, 41, 32, 39, 32, 42, 41], [40, 42, 42, 42, 41]]
theorem between (x : List UInt8) (hx : x ∈ BTW) (t : List UInt8) : skp (x ++ t) = skp t ∧ bd (x ++ t) ∧ x.length ≤ 20 := by
  simp only [BTW, List.mem_cons, List.not_mem_nil, or_false] at hx
  have b32 : blank 32 = true := rfl
  have b10 : blank 10 = true := rfl
  have b9 : blank 9 = true := rfl
  rcases hx with rfl | rfl | rfl | rfl | rfl | rfl
  · exact ⟨skp_blank b32, .inl rfl, by decide⟩
  · exact ⟨skp_blank b10, .inr (.inr (.inl rfl)), by decide⟩
  · exact ⟨(skp_blank b9).trans ((skp_blank b10).trans (skp_blank b32)), .inr (.inl rfl), by decide⟩
  · refine ⟨(skp_blank b32).trans ?_, .inl rfl, by decide⟩
    have e : cmt 1 (42 :: 41 :: 32 :: t) = some (32 :: t) := by simp [cmt]
    show skp (40 :: 42 :: (42 :: 41 :: 32 :: t)) = _
    rw [skp_cmt, e, obind, skp_blank b32]
  · refine ⟨?_, .inr (.inr (.inr rfl)), by decide⟩
    have e : cmt 1 (32 :: 97 :: 32 :: 40 :: 42 :: 32 :: 34 :: 98 :: 32 :: 42 :: 41 :: 32 :: 39 :: 32 :: 42 :: 41 :: t) = some t := by simp [cmt]
    show skp (40 :: 42 :: (32 :: 97 :: 32 :: 40 :: 42 :: 32 :: 34 :: 98 :: 32 :: 42 :: 41 :: 32 :: 39 :: 32 :: 42 :: 41 :: t)) = _
    rw [skp_cmt, e, obind]
  · refine ⟨?_, .inr (.inr (.inr rfl)), by decide⟩
    have e : cmt 1 (42 :: 42 :: 41 :: t) = some t := by simp [cmt]
    show skp (40 :: 42 :: (42 :: 42 :: 41 :: t)) = _
    rw [skp_cmt, e, obind]
theorem cmt_plain : ∀ s : List UInt8, (∀ c ∈ s, c ≠ 40 ∧ c ≠ 42) → cmt 1 (s ++ [42, 41]) = some []
  | [], _ => by simp [cmt]
  | [c], h => by
    have hc := h c (by simp)
    show cmt 1 (c :: 42 :: [41]) = _
    rw [cmt, if_neg (fun e => hc.1 e.1), if_neg (fun e => hc.2 e.1)]
    simp [cmt]
  | c :: d :: s, h => by
    have hc := h c (by simp)
    show cmt 1 (c :: d :: (s ++ [42, 41])) = _
    rw [cmt, if_neg (fun e => hc.1 e.1), if_neg (fun e => hc.2 e.1)]
    exact cmt_plain (d :: s) (fun x hx => h x (List.mem_cons_of_mem _ hx))
theorem notin {s : List UInt8} {c : UInt8} (h : ¬ 0 ≤ Lib.indexByte s c) : c ∉ s := by
  have h1 := Lib.indexByte_ge s c
  have h2 : Lib.indexByte s c = -1 := by omega
  intro hm
  obtain ⟨k, hk⟩ := List.getElem?_of_mem hm
  exact Lib.indexByte_none h2 k hk
theorem ktMap (s : List UInt8) (l : List (Int × List UInt8 × List UInt8)) : (l.map (tokOf s)).map kt = l.map fun q => (q.1, q.2.1) := by
  rw [List.map_map]; rfl
theorem Blanks_M (s t : List UInt8) (w : UInt8) {fuel : Nat} (hf : 5000 ≤ fuel) : M.law02_LexerBlanks fuel s t w = some true := by
  rw [M.law02_LexerBlanks, awake_M (by omega)]
  simp only [obind, Bool.not_true, Bool.false_eq_true, if_false]
  by_cases hs : 600 < s.length
  · rw [show ltI 600 (s.length : Int) = true from decide_eq_true (by omega)]; rfl
  by_cases ht : 600 < t.length
  · rw [show ltI 600 (t.length : Int) = true from decide_eq_true (by omega), Bool.or_true]; rfl
  rw [show ltI 600 (s.length : Int) = false from decide_eq_false (by omega), show ltI 600 (t.length : Int) = false from decide_eq_false (by omega)]
  simp only [Bool.or_self, Bool.false_eq_true, if_false]
  obtain ⟨A, a1, a2⟩ := tokens_spec s (by omega) (fuel := fuel) (by omega)
  obtain ⟨B, b1, b2⟩ := tokens_spec t (by omega) (fuel := fuel) (by omega)
  rw [a1, b1]
  simp only [obind]
  rcases a2 with ⟨a0, la, aT, aL⟩ | ⟨a0, aL, _⟩
  case inr =>
    have h1 : eqI A.2.2 0 = false := decide_eq_false a0
    rw [h1, aL]; rfl
  rcases b2 with ⟨b0, lb, bT, bL⟩ | ⟨b0, bL, _⟩
  case inr =>
    have h1 : eqI A.2.2 0 = true := decide_eq_true a0
    have h2 : eqI B.2.2 0 = false := decide_eq_false b0
    rw [h1, h2, bL]; rfl
  have h1 : eqI A.2.2 0 = true := decide_eq_true a0
  have h2 : eqI B.2.2 0 = true := decide_eq_true b0
  obtain ⟨la', hla⟩ := aT.last
  obtain ⟨lb', hlb⟩ := bT.last
  have al : A.1.length = la'.length + 1 := by rw [aL, hla]; simp
  have bl : B.1.length = lb'.length + 1 := by rw [bL, hlb]; simp
  have hLa : la'.length ≤ 700 ∧ B.1.length ≤ 700 := by
    have q1 := aT.len (by omega); have q2 := bT.len (by omega)
    rw [hla] at q1; rw [hlb] at q2
    simp at q1 q2
    omega
  have h3 : eqI (A.1.length : Int) 0 = false := decide_eq_false (by omega)
  have h4 : eqI (B.1.length : Int) 0 = false := decide_eq_false (by omega)
  simp only [h1, h2, h3, h4, Bool.not_true, Bool.or_self, Bool.false_eq_true, if_false]
  have hm : Int.tmod (w.toNat : Int) 6 = ((w.toNat % 6 : Nat) : Int) := by rw [Int.tmod_eq_emod_of_nonneg (by omega)]; rfl
  have hidx : ∃ x, idx BTW (Int.tmod (w.toNat : Int) 6) = some x ∧ x ∈ BTW := by
    rw [hm, idxN]
    have : w.toNat % 6 < BTW.length := Nat.mod_lt _ (by decide)
    exact ⟨_, List.getElem?_eq_getElem this, List.getElem_mem _⟩
  obtain ⟨x, x1, x2⟩ := hidx
  obtain ⟨y1, y2, y3⟩ := between x x2 t
  change ((idx BTW (Int.tmod (w.toNat : Int) 6)).bind _) = _
  rw [x1]
  simp only [obind]
  rw [cat, if_pos (by omega)]
  simp only [obind]
  rw [cat, if_pos (by simp; omega)]
  simp only [obind]
  obtain ⟨C, c1, c2⟩ := tokens_spec (s ++ x ++ t) (by simp; omega) (fuel := fuel) (by simp; omega)
  rw [c1]
  simp only [obind]
  have hT := Toks.ext (x ++ t) y2 (Toks.skip y1 bT) aT
  rw [← List.append_assoc] at hT
  rcases c2 with ⟨c0, lc, cT, cL⟩ | ⟨c0, cL, cN, _⟩
  case inr => exact (cN _ hT).elim
  have hlc := cT.inj hT
  have h5 : eqI C.2.2 0 = true := decide_eq_true c0
  simp only [h5, Bool.not_true, Bool.false_eq_true, if_false]
  rw [chk64 (by omega) (by omega)]
  simp only [obind]
  rw [show ((A.1.length : Int) - 1) = ((la'.length : Nat) : Int) by omega, subTg A.1 la'.length (by omega)]
  simp only [obind]
  have hCl : C.1.length ≤ 1300 := by
    have q1 := cT.len (by simp; omega)
    rw [cL]
    simp at q1 ⊢
    omega
  rw [Concat2 _ _ (by omega) (by rw [List.length_take]; omega)]
  simp only [obind]
  have hkt : C.1.map kt = (A.1.take la'.length ++ B.1).map kt := by
    rw [List.map_append, List.map_take, cL, aL, bL, ktMap, ktMap, ktMap, hlc, hla]
    simp
  rw [SameF_M _ _ hkt (by omega)]
  simp only [obind, Bool.not_true, Bool.false_eq_true, if_false, M.strings_Contains]
  by_cases p1 : 0 ≤ Lib.indexByte s 40
  · simp only [p1, decide_true, if_true, obind]
  by_cases p2 : 0 ≤ Lib.indexByte s 42
  · simp only [p1, p2, decide_true, decide_false, Bool.false_eq_true, if_false, if_true, obind]
  by_cases p3 : 0 ≤ Lib.indexByte s 41
  · simp only [p1, p2, p3, decide_true, decide_false, Bool.false_eq_true, if_false, if_true, obind]
  simp only [p1, p2, p3, decide_false, Bool.false_eq_true, if_false, obind]
  rw [cat, if_pos (by simp; omega)]
  simp only [obind]
  rw [cat, if_pos (by simp; omega)]
  simp only [obind]
  have m1 := notin p1; have m2 := notin p2
  have hw : ([40, 42, 32] ++ s ++ [32, 42, 41] : List UInt8) = 40 :: 42 :: ((32 :: (s ++ [32])) ++ [42, 41]) := by simp
  rw [hw]
  have hD : Toks (40 :: 42 :: ((32 :: (s ++ [32])) ++ [42, 41])) [(8, [], [])] := by
    refine .done ?_
    rw [skp_cmt, cmt_plain _ (fun c hc => ?_), obind, skp_nil]
    simp only [List.mem_cons, List.mem_append, List.not_mem_nil, or_false] at hc
    rcases hc with rfl | hc | rfl
    · decide
    · exact ⟨fun e => m1 (e ▸ hc), fun e => m2 (e ▸ hc)⟩
    · decide
  obtain ⟨D, d1, d2⟩ := tokens_spec (40 :: 42 :: ((32 :: (s ++ [32])) ++ [42, 41])) (by simp; omega) (fuel := fuel) (by simp; omega)
  rw [d1]
  rcases d2 with ⟨d0, ld, dT, dL⟩ | ⟨d0, dL, dN, _⟩
  case inr => exact (dN _ hD).elim
  have hld := dT.inj hD
  subst hld
  simp only [obind]
  rw [show eqI D.2.2 0 = true from decide_eq_true d0, dL]
  rfl
theorem LexerBlanks_true (s t : List UInt8) (w : UInt8) (_ : s.length ≤ 140737488351232) (_ : t.length ≤ 140737488351232) : ∃ fuel, M.law02_LexerBlanks fuel s t w = some true := ⟨5000, Blanks_M s t w (by omega)⟩
end Go.Proofs.YthbjlmoaceaeeaaDoor
set_option linter.unusedVariables false
set_option linter.unusedSimpArgs false
namespace Go.Proofs.YthbjlmoaceaeeaaDoor
open Go Go.Abs
def rt (t : Api.Token) : Bool := if t.Kind = 5 then decide (t.Text.length ≤ 16384) && t.Text.all okc else decide (tk t.Text = some (t.Kind, t.Text, []))
def wt (t : Api.Token) : List UInt8 := if t.Kind = 5 then 34 :: (qs t.Text ++ [34]) else t.Text
theorem sy_first {c : UInt8} {r : List UInt8} (h : sy (c :: r) ≠ []) : (smB c || caB c) = false ∧ c ≠ 39 ∧ diB c = false ∧ c ≠ 34 ∧ blank c = false := by
  have key : ∀ d ∈ ([58, 61, 45, 60] ++ SB : List UInt8), (smB d || caB d) = false ∧ d ≠ 39 ∧ diB d = false ∧ d ≠ 34 ∧ blank d = false := by decide
  refine key c ?_
  rw [sy] at h
  split at h
  · exact (h rfl).elim
  split at h
  · rename_i x hx
    have h1 := List.find?_some hx
    have h2 := List.mem_of_find?_eq_some hx
    simp only [SA, List.mem_cons, List.not_mem_nil, or_false] at h2
    rcases h2 with rfl | rfl | rfl | rfl <;> obtain ⟨q, hq⟩ := (pre2 _ _ _).1 h1 <;> cases hq <;> simp
  · split at h
    · rename_i h3
      have : c ∈ SB := by
        refine Classical.byContradiction fun hn => ?_
        have hno : ∀ l : List UInt8, c ∉ l → Lib.indexByte l c = -1 := by
          intro l
          induction l with
          | nil => intro _; rfl
          | cons b l ih =>
            intro hb
            have hb1 : ¬ b = c := fun e => hb (by rw [e]; exact List.mem_cons_self ..)
            have hb2 : c ∉ l := fun e => hb (List.mem_cons_of_mem _ e)
            simp [Lib.indexByte, hb1, ih hb2]
        have := hno SB hn
        omega
      exact List.mem_append_right _ this
    · exact (h rfl).elim
theorem tk_cases {s x r : List UInt8} {k : Int} (h : tk s = some (k, x, r)) : (k = 1 ∨ k = 2 ∨ k = 3 ∨ k = 4 ∨ k = 5 ∨ k = 6 ∨ k = 7) ∧ (k ≠ 5 → s = x ++ r) ∧ s ≠ [] ∧ skp s = some s ∧ (k = 7 → sy s = x) := by
  match s, h with
  | [], h => simp [tk] at h
  | c :: t, h =>
    have hsk : blank c = false → pre (c :: t) [40, 42] = false → skp (c :: t) = some (c :: t) := skp_else
    have hp : c ≠ 40 → pre (c :: t) [40, 42] = false := fun hc => by
      cases hh : pre (c :: t) [40, 42]
      · rfl
      · obtain ⟨q, hq⟩ := (pre2 _ _ _).1 hh
        cases hq; exact (hc rfl).elim
    have bl : ∀ c : UInt8, blank c = true → c = 32 ∨ c = 9 ∨ c = 10 := fun c h => by
      unfold blank at h
      simpa using h
    rw [tk.eq_def] at h
    dsimp only at h
    by_cases h1 : (smB c || caB c) = true
    · rw [if_pos h1] at h
      have n40 : c ≠ 40 := fun e => by subst e; revert h1; decide
      have nb : blank c = false := by
        cases hb : blank c
        · rfl
        · rcases bl c hb with rfl | rfl | rfl <;> (revert h1; decide)
      split at h
      · cases h
      · simp only [Option.some.injEq, Prod.mk.injEq] at h
        obtain ⟨rfl, rfl, rfl⟩ := h
        refine ⟨?_, fun _ => (List.take_append_drop _ _).symm, by simp, hsk nb (hp n40), fun e => ?_⟩
        · split
          · simp
          · split <;> simp
        · split at e
          · omega
          · split at e <;> omega
    rw [if_neg h1] at h
    by_cases h2 : c = 39
    · subst h2
      rw [if_pos rfl] at h
      have n40 : (39 : UInt8) ≠ 40 := by decide
      split at h
      · cases h
      · split at h
        · split at h
          · cases h
          · simp only [Option.some.injEq, Prod.mk.injEq] at h
            obtain ⟨rfl, rfl, rfl⟩ := h
            exact ⟨by simp, fun _ => (List.take_append_drop _ _).symm, by simp, hsk rfl (hp n40), fun e => by omega⟩
        · cases h
    rw [if_neg h2] at h
    by_cases h3 : diB c = true
    · rw [if_pos h3] at h
      have n40 : c ≠ 40 := fun e => by subst e; revert h3; decide
      have nb : blank c = false := by
        cases hb : blank c
        · rfl
        · rcases bl c hb with rfl | rfl | rfl <;> (revert h3; decide)
      split at h
      · simp only [Option.some.injEq, Prod.mk.injEq] at h
        obtain ⟨rfl, rfl, rfl⟩ := h
        exact ⟨by simp, fun _ => (List.take_append_drop _ _).symm, by simp, hsk nb (hp n40), fun e => by omega⟩
      · cases h
    rw [if_neg h3] at h
    by_cases h4 : c = 34
    · subst h4
      rw [if_pos rfl] at h
      cases hl : lt t with
      | none => rw [hl] at h; cases h
      | some q =>
        rw [hl] at h
        simp only [Option.map_some, Option.some.injEq, Prod.mk.injEq] at h
        obtain ⟨rfl, rfl, rfl⟩ := h
        exact ⟨by simp, fun e => (e rfl).elim, by simp, hsk rfl (hp (by decide)), fun e => by omega⟩
    rw [if_neg h4] at h
    obtain ⟨_, y2, y3⟩ := Symbol_sy c t (fuel := 40) (Nat.le_refl _)
    split at h
    · cases h
    · rename_i h5
      have hf := sy_first h5
      simp only [Option.some.injEq, Prod.mk.injEq] at h
      obtain ⟨rfl, rfl, rfl⟩ := h
      refine ⟨by simp, fun _ => ?_, by simp, hsk hf.2.2.2.2 ?_, fun _ => rfl⟩
      · have := (List.take_append_drop (sy (c :: t)).length (c :: t)).symm
        rw [y3] at this
        exact this
      · cases hh : pre (c :: t) [40, 42]
        · rfl
        · rw [sy, if_pos hh] at h5; exact (h5 rfl).elim
theorem tk_sy {c : UInt8} {t : List UInt8} (h : sy (c :: t) ≠ []) : tk (c :: t) = some (7, sy (c :: t), (c :: t).drop (sy (c :: t)).length) := by
  obtain ⟨a1, a2, a3, a4, _⟩ := sy_first h
  rw [tk.eq_def]
  dsimp only
  rw [if_neg (by rw [a1]; simp), if_neg a2, if_neg (by rw [a3]; simp), if_neg a4, if_neg h]
theorem tokB (t : Api.Token) (h5 : t.Kind ≠ 5) (hne : t.Text ≠ []) (hl : t.Text.length ≤ 20000) {fuel : Nat} (hf : 20200 ≤ fuel) :
    ∃ L, M.lexer_scanner_token fuel (Lexer.scanner.mk t.Text 0) = some L ∧ ((eqI L.2.2.1 0) && ((eqI L.1.Kind t.Kind) && (eqI L.2.2.2.at_ (t.Text.length : Int)))) = rt t := by
  have hpos : 0 < t.Text.length := by
    cases h : t.Text with
    | nil => exact (hne h).elim
    | cons c r => simp
  obtain ⟨L, l1, l2⟩ := token_spec t.Text (by omega) 0 hpos (fuel := fuel) (by omega)
  refine ⟨L, l1, ?_⟩
  unfold rt
  rw [if_neg h5]
  unfold TKS at l2
  simp only [List.drop_zero, Nat.zero_add] at l2
  rcases l2 with ⟨e0, N, n1, n2, n3, n4⟩ | ⟨e0, n1, _⟩
  · rw [decide_eq_true (show L.2.2.1 = 0 from e0) |> (show eqI L.2.2.1 0 = true from ·), Bool.true_and, n4, n3]
    obtain ⟨c1, c2, _⟩ := tk_cases n3
    by_cases hk : L.1.Kind = t.Kind
    · by_cases hN : N = t.Text.length
      · have e1 : eqI L.1.Kind t.Kind = true := decide_eq_true hk
        have e2 : eqI ((N : Nat) : Int) (t.Text.length : Int) = true := decide_eq_true (by omega)
        have hd : t.Text.drop N = [] := List.drop_eq_nil_of_le (by omega)
        have hx := c2 (by rw [hk]; exact h5)
        rw [hd, List.append_nil] at hx
        rw [e1]
        dsimp only
        rw [e2, hd, hk, ← hx]
        simp
      · have e2 : eqI ((N : Nat) : Int) (t.Text.length : Int) = false := decide_eq_false (by omega)
        dsimp only
        rw [e2, Bool.and_false]
        refine (decide_eq_false ?_).symm
        intro e
        simp only [Option.some.injEq, Prod.mk.injEq] at e
        have := congrArg List.length e.2.2
        simp at this
        omega
    · have e1 : eqI L.1.Kind t.Kind = false := decide_eq_false hk
      rw [e1, Bool.false_and]
      refine (decide_eq_false ?_).symm
      intro e
      simp only [Option.some.injEq, Prod.mk.injEq] at e
      exact hk e.1
  · rw [decide_eq_false (show ¬ L.2.2.1 = 0 from e0) |> (show eqI L.2.2.1 0 = false from ·), Bool.false_and, n1]
    rfl
theorem Symbol_nil {fuel : Nat} (hf : 40 ≤ fuel) : M.lexer_Symbol fuel [] = some ([], false) := by
  rw [M.lexer_Symbol, has_M]
  have hA := Sym_loop [] SA 4 0 fuel rfl (by omega)
  have h0 : pre [] [40, 42] = false := rfl
  simp only [obind, h0, Bool.false_eq_true, if_false]
  change ((M.lexer_Symbol_l1 [] SA fuel 0).bind _) = _
  rw [hA]
  rfl
theorem written_M (t : Api.Token) (hl : t.Text.length ≤ 17000) {fuel : Nat} (hf : 20200 ≤ fuel) : ∃ w, M.lexer_written fuel t = some (w, rt t) ∧ (rt t = true → w = wt t) ∧ w.length ≤ 40000 := by
  rw [M.lexer_written]
  have ek : ∀ n : Int, eqI t.Kind n = decide (t.Kind = n) := fun n => rfl
  simp only [ek]
  by_cases h5 : t.Kind = 5
  · have hwt : wt t = 34 :: (qs t.Text ++ [34]) := by unfold wt; rw [if_pos h5]
    have hrt : rt t = (decide (t.Text.length ≤ 16384) && t.Text.all okc) := by unfold rt; rw [if_pos h5]
    rw [decide_eq_true h5, if_pos rfl, hrt]
    by_cases hs : t.Text.length ≤ 16384
    · rw [Quote_M hs (by omega), decide_eq_true hs, Bool.true_and]
      have := qs_len t.Text
      cases ha : t.Text.all okc
      · exact ⟨[], rfl, fun h => (by cases h), by simp⟩
      · exact ⟨34 :: (qs t.Text ++ [34]), rfl, fun _ => hwt.symm, by simp; omega⟩
    · rw [M.lexer_Quote, if_pos (show ltI 16384 (t.Text.length : Int) = true from decide_eq_true (by omega)), decide_eq_false hs, Bool.false_and]
      exact ⟨[], rfl, fun h => (by cases h), by simp⟩
  rw [decide_eq_false h5]
  have hwt : wt t = t.Text := by unfold wt; rw [if_neg h5]
  simp only [Bool.false_eq_true, if_false]
  by_cases h7 : t.Kind = 7
  · rw [decide_eq_true h7]
    simp only [if_true]
    have hrt : rt t = decide (tk t.Text = some (7, t.Text, [])) := by unfold rt; rw [if_neg h5, h7]
    rw [hrt]
    generalize t.Text = s at hl hwt
    match s, hl, hwt with
    | [], hl, hwt =>
      rw [Symbol_nil (by omega)]
      exact ⟨[], rfl, fun h => (by cases h), by simp⟩
    | c :: r, hl, hwt =>
      obtain ⟨y1, y2, y3⟩ := Symbol_sy c r (fuel := fuel) (by omega)
      rw [y1]
      simp only [obind]
      refine ⟨c :: r, ?_, fun _ => hwt.symm, by omega⟩
      congr 2
      by_cases hs : sy (c :: r) = c :: r
      · have hn : sy (c :: r) ≠ [] := by rw [hs]; simp
        have e1 : eqS (sy (c :: r)) (c :: r) = true := decide_eq_true hs
        rw [decide_eq_true hn, e1, tk_sy hn, hs]
        simp
      · have e1 : eqS (sy (c :: r)) (c :: r) = false := decide_eq_false hs
        rw [e1, Bool.and_false]
        refine (decide_eq_false fun e => ?_).symm
        exact hs ((tk_cases e).2.2.2.2 rfl)
  rw [decide_eq_false h7]
  simp only [Bool.false_eq_true, if_false]
  by_cases hne : t.Text = []
  · have hrt : rt t = false := by unfold rt; rw [if_neg h5, hne]; simp [tk]
    have e1 : eqS t.Text [] = true := decide_eq_true hne
    simp only [e1, if_true, hrt, ite_self]
    exact ⟨[], rfl, fun h => (by cases h), by simp⟩
  have e1 : eqS t.Text [] = false := decide_eq_false hne
  obtain ⟨L, l1, l2⟩ := tokB t h5 hne (by omega) (fuel := fuel) hf
  simp only [e1, Bool.false_eq_true, if_false, l1, obind, l2]
  by_cases hk : t.Kind = 1 ∨ t.Kind = 2 ∨ t.Kind = 3 ∨ t.Kind = 4 ∨ t.Kind = 6
  · refine ⟨t.Text, ?_, fun _ => hwt.symm, by omega⟩
    rcases hk with h | h | h | h | h <;> simp [h]
  · have n1 : ¬ t.Kind = 1 := fun e => hk (.inl e)
    have n2 : ¬ t.Kind = 2 := fun e => hk (.inr (.inl e))
    have n3 : ¬ t.Kind = 3 := fun e => hk (.inr (.inr (.inl e)))
    have n4 : ¬ t.Kind = 4 := fun e => hk (.inr (.inr (.inr (.inl e))))
    have n6 : ¬ t.Kind = 6 := fun e => hk (.inr (.inr (.inr (.inr e))))
    have hrt : rt t = false := by
      unfold rt
      rw [if_neg h5]
      refine decide_eq_false fun e => ?_
      have := (tk_cases e).1
      omega
    simp only [decide_eq_false n1, decide_eq_false n2, decide_eq_false n3, decide_eq_false n4, decide_eq_false n6, Bool.false_eq_true, if_false, hrt]
    exact ⟨[], rfl, fun h => (by cases h), by simp⟩
theorem Plain_loop (s : List UInt8) : ∀ (n i k : Nat), i + n = s.length → n + 1 ≤ k → M.ref02_Plain_l1 s k i = some (if (s.drop i).all okc = true then .inr () else .inl false) := by
  intro n
  induction n with
  | zero =>
    intro i k hi hk
    obtain ⟨g, rfl⟩ : ∃ g, k = g + 1 := ⟨k - 1, by omega⟩
    rw [M.ref02_Plain_l1, if_neg (show ¬ ltI (i : Int) (s.length : Int) = true from fun h => by have := ltT h; omega), List.drop_eq_nil_of_le (by omega)]
    rfl
  | succ n ih =>
    intro i k hi hk
    obtain ⟨g, rfl⟩ : ∃ g, k = g + 1 := ⟨k - 1, by omega⟩
    have hx : s[i]? = some s[i] := List.getElem?_eq_getElem (by omega)
    rw [M.ref02_Plain_l1, if_pos (show ltI (i : Int) (s.length : Int) = true from decide_eq_true (by omega)), hx, List.drop_eq_getElem_cons (by omega), List.all_cons]
    generalize s[i] = c
    simp only [obind, e10]
    have hb : (if ltI (c.toNat : Int) 32 = true then some (!decide (c = 10)) else if ltI 126 (c.toNat : Int) = true then some (!decide (c = 10)) else some false) = some (!okc c) := by
      have hv := vis_N c.toNat
      unfold okc
      have e : (c == 10) = decide (c = 10) := rfl
      rw [e]
      cases h1 : ltI (c.toNat : Int) 32
      · cases h2 : ltI 126 (c.toNat : Int)
        · rw [h1, h2] at hv
          have : (decide (32 ≤ c.toNat) && decide (c.toNat ≤ 126)) = true := by simpa using hv.symm
          simp [this]
        · rw [h1, h2] at hv
          have : (decide (32 ≤ c.toNat) && decide (c.toNat ≤ 126)) = false := by
            cases hB : (decide (32 ≤ c.toNat) && decide (c.toNat ≤ 126))
            · rfl
            · rw [hB] at hv; simp at hv
          simp [this]
      · rw [h1] at hv
        have : (decide (32 ≤ c.toNat) && decide (c.toNat ≤ 126)) = false := by
            cases hB : (decide (32 ≤ c.toNat) && decide (c.toNat ≤ 126))
            · rfl
            · rw [hB] at hv; simp at hv
        simp [this]
    rw [hb]
    simp only [obind]
    cases okc c
    · rfl
    · simp only [Bool.not_true, Bool.false_eq_true, if_false, Bool.true_and]
      exact ih (i + 1) g (by omega) (by omega)
theorem Plain_M (s : List UInt8) {fuel : Nat} (hf : s.length + 1 ≤ fuel) : M.ref02_Plain fuel s = some (s.all okc) := by
  rw [M.ref02_Plain, Plain_loop s s.length 0 fuel (by omega) hf, List.drop_zero]
  cases s.all okc <;> rfl
theorem Right_M (t : Api.Token) (hl : t.Text.length ≤ 17000) {fuel : Nat} (hf : 20200 ≤ fuel) : M.ref02_Right fuel t = some (rt t) := by
  rw [M.ref02_Right]
  by_cases h5 : t.Kind = 5
  · have hrt : rt t = (decide (t.Text.length ≤ 16384) && t.Text.all okc) := by unfold rt; rw [if_pos h5]
    rw [show eqI t.Kind 5 = true from decide_eq_true h5, hrt]
    simp only [if_true]
    by_cases hs : t.Text.length ≤ 16384
    · rw [show leI (t.Text.length : Int) 16384 = true from decide_eq_true (by omega), Plain_M _ (by omega), decide_eq_true hs]; rfl
    · rw [show leI (t.Text.length : Int) 16384 = false from decide_eq_false (by omega), decide_eq_false hs]; rfl
  rw [show eqI t.Kind 5 = false from decide_eq_false h5]
  simp only [Bool.false_eq_true, if_false]
  by_cases hne : t.Text = []
  · have hrt : rt t = false := by unfold rt; rw [if_neg h5, hne]; simp [tk]
    rw [show eqS t.Text [] = true from decide_eq_true hne, hrt]; rfl
  rw [show eqS t.Text [] = false from decide_eq_false hne]
  simp only [Bool.false_eq_true, if_false]
  by_cases h8 : t.Kind = 8
  · have hrt : rt t = false := by
      unfold rt
      rw [if_neg h5]
      refine decide_eq_false fun e => ?_
      have := (tk_cases e).1
      omega
    rw [show eqI t.Kind 8 = true from decide_eq_true h8, hrt]; rfl
  rw [show eqI t.Kind 8 = false from decide_eq_false h8]
  simp only [Bool.false_eq_true, if_false]
  have hpos : 0 < t.Text.length := by
    cases h : t.Text with
    | nil => exact (hne h).elim
    | cons c r => simp
  have h0 : t.Text[0]? = some t.Text[0] := List.getElem?_eq_getElem hpos
  have hd : t.Text = t.Text[0] :: t.Text.drop 1 := by have := List.drop_eq_getElem_cons hpos; simpa using this
  generalize t.Text[0] = c at h0 hd
  rw [h0]
  simp only [obind, e34]
  by_cases c34 : c = 34
  · have hrt : rt t = false := by
      unfold rt
      rw [if_neg h5]
      refine decide_eq_false fun e => ?_
      rw [hd, c34, tk.eq_def] at e
      dsimp only at e
      rw [if_neg (by decide), if_neg (by decide), if_neg (by decide), if_pos rfl] at e
      cases hl : lt (t.Text.drop 1) with
      | none => rw [hl] at e; cases e
      | some q =>
        rw [hl] at e
        simp only [Option.map_some, Option.some.injEq, Prod.mk.injEq] at e
        exact h5 e.1.symm
    rw [decide_eq_true c34, hrt]; rfl
  rw [decide_eq_false c34]
  simp only [Bool.false_eq_true, if_false]
  obtain ⟨L, R, l1, r1, ht⟩ := token_both t.Text (by omega) 0 hpos (fuel := fuel) (by omega)
  obtain ⟨L', l1', hb⟩ := tokB t h5 hne (by omega) (fuel := fuel) hf
  have e0 : ((0 : Nat) : Int) = 0 := rfl
  rw [e0] at l1
  rw [l1] at l1'
  cases l1'
  rw [List.drop_zero] at r1
  rw [r1]
  simp only [obind]
  congr 1
  rw [← hb]
  rcases ht with ⟨t1, t2, t3, t4, N, t5, t6, t7, t8⟩ | ⟨t1, t2, P, t3, t4, t5⟩
  · rw [t1, t2, t3, t5, t8, Nat.zero_add]
    dsimp only
    rw [Bool.and_comm (eqI (N : Int) _)]
  · have a1 : eqI L.2.2.1 0 = false := decide_eq_false t1
    rw [t2, a1]; rfl
theorem RQuote_loop (s : List UInt8) (hs : s.length ≤ 20000) : ∀ (n i k : Nat) (b : List UInt8), i + n = s.length → n + 1 ≤ k → b.length + 2 * n ≤ 1000000 → M.ref02_Quote_l1 s k b i = some (b ++ qs (s.drop i)) := by
  intro n
  induction n with
  | zero =>
    intro i k b hi hk hb
    obtain ⟨g, rfl⟩ : ∃ g, k = g + 1 := ⟨k - 1, by omega⟩
    rw [M.ref02_Quote_l1, if_neg (show ¬ ltI (i : Int) (s.length : Int) = true from fun h => by have := ltT h; omega), List.drop_eq_nil_of_le (by omega)]
    simp [qs]
  | succ n ih =>
    intro i k b hi hk hb
    obtain ⟨g, rfl⟩ : ∃ g, k = g + 1 := ⟨k - 1, by omega⟩
    have hx : s[i]? = some s[i] := List.getElem?_eq_getElem (by omega)
    have hdc : s.drop i = s[i] :: s.drop (i + 1) := List.drop_eq_getElem_cons (by omega)
    rw [M.ref02_Quote_l1, if_pos (show ltI (i : Int) (s.length : Int) = true from decide_eq_true (by omega)), hx]
    generalize s[i] = c at hx hdc
    rw [hdc, qs_cons]
    simp only [obind, e10, e34, e92]
    by_cases c34 : c = 34
    · subst c34
      simp only [decide_true, if_true]
      rw [cat, if_pos (by simp; omega)]
      simp only [obind]
      rw [ih (i + 1) g _ (by omega) (by omega) (by simp; omega)]
      rw [show esc 34 = [92, 34] from rfl]; simp
    rw [decide_eq_false c34]
    simp only [Bool.false_eq_true, if_false]
    by_cases c92 : c = 92
    · subst c92
      simp only [decide_true, if_true]
      rw [cat, if_pos (by simp; omega)]
      simp only [obind]
      rw [ih (i + 1) g _ (by omega) (by omega) (by simp; omega)]
      rw [show esc 92 = [92, 92] from rfl]; simp
    rw [decide_eq_false c92]
    simp only [Bool.false_eq_true, if_false]
    by_cases c10 : c = 10
    · subst c10
      simp only [decide_true, if_true]
      rw [cat, if_pos (by simp; omega)]
      simp only [obind]
      rw [ih (i + 1) g _ (by omega) (by omega) (by simp; omega)]
      rw [show esc 10 = [92, 110] from rfl]; simp
    rw [decide_eq_false c10]
    simp only [Bool.false_eq_true, if_false]
    have he : esc c = [c] := by unfold esc; rw [if_neg c10, if_neg (by simp [c34, c92])]
    have hsub : subC s (i : Int) ((i + 1 : Nat) : Int) = some [c] := by
      rw [subC, if_pos ⟨by omega, by omega, by omega⟩]
      have e1 : ((i + 1 : Nat) : Int).toNat - (i : Int).toNat = 1 := by omega
      unfold sub
      rw [e1, Int.toNat_natCast, hdc]
      rfl
    rw [hsub]
    simp only [obind]
    rw [cat, if_pos (by simp; omega)]
    simp only [obind]
    rw [ih (i + 1) g _ (by omega) (by omega) (by simp; omega), he]
    simp
theorem RQuote_M (s : List UInt8) (hs : s.length ≤ 20000) {fuel : Nat} (hf : s.length + 1 ≤ fuel) : M.ref02_Quote fuel s = some (34 :: (qs s ++ [34])) := by
  have := qs_len s
  rw [M.ref02_Quote, RQuote_loop s hs s.length 0 fuel [34] (by omega) hf (by simp; omega), List.drop_zero]
  simp only [obind]
  rw [cat, if_pos (by simp; omega)]
  simp
end Go.Proofs.YthbjlmoaceaeeaaDoor
set_option linter.unusedVariables false
set_option linter.unusedSimpArgs false
namespace Go.Proofs.YthbjlmoaceaeeaaDoor
open Go Go.Abs
theorem split10_cons (c : UInt8) (s : List UInt8) : Lib.split (c :: s) [10] = if c = 10 then [] :: Lib.split s [10] else cons1 c (Lib.split s [10]) := by
  by_cases h : c = 10
  · subst h
    rw [if_pos rfl, split_hit 10 [] (10 :: s) (by simp [List.isPrefixOf])]
    rfl
  · rw [if_neg h, split_miss 10 c [] s (notPre h)]
def twn (s : List UInt8) : List UInt8 := s.takeWhile (fun c => !decide (c = 10))
theorem twn_cons (c : UInt8) (s : List UInt8) : twn (c :: s) = if c = 10 then [] else c :: twn s := by
  unfold twn
  rw [List.takeWhile_cons]
  by_cases h : c = 10 <;> simp [h]
theorem split10_head : ∀ s : List UInt8, ∃ rest, Lib.split s [10] = twn s :: rest
  | [] => ⟨[], rfl⟩
  | c :: s => by
    obtain ⟨rest, h⟩ := split10_head s
    rw [split10_cons, twn_cons]
    by_cases hc : c = 10
    · rw [if_pos hc, if_pos hc]; exact ⟨_, rfl⟩
    · rw [if_neg hc, if_neg hc, h]; exact ⟨_, rfl⟩
theorem split10_len : ∀ s : List UInt8, (Lib.split s [10]).length = Lib.countByte s 10 + 1
  | [] => rfl
  | c :: s => by
    have ih := split10_len s
    rw [split10_cons]
    unfold Lib.countByte at ih ⊢
    rw [List.count_cons]
    by_cases hc : c = 10
    · rw [if_pos hc, List.length_cons, ih]; simp [hc]
    · rw [if_neg hc]
      cases h : Lib.split s [10] with
      | nil => exact (split_ne 10 [] s h).elim
      | cons l ls => rw [h] at ih; simp only [cons1, List.length_cons] at ih ⊢; simp [hc]; omega
theorem line_at (s : List UInt8) : ∀ i, i ≤ s.length → ∃ x y rest, (Lib.split s [10]).drop (Lib.countByte (s.take i) 10) = (x ++ y) :: rest ∧ Lib.split (s.drop i) [10] = y :: rest ∧ (x.length : Int) = (i : Int) - la 10 s i - 1
  | 0, _ => by
    obtain ⟨rest, h⟩ := split10_head s
    exact ⟨[], twn s, rest, by simp [Lib.countByte, h], by simpa using h, by simp [la]⟩
  | i + 1, hi => by
    obtain ⟨x, y, rest, h1, h2, h3⟩ := line_at s i (by omega)
    have hx : s[i]? = some s[i] := List.getElem?_eq_getElem (by omega)
    have hd : s.drop i = s[i] :: s.drop (i + 1) := List.drop_eq_getElem_cons (by omega)
    generalize s[i] = c at hx hd
    rw [cnt_take s i c hx, la, hx]
    rw [hd, split10_cons] at h2
    by_cases hc : c = 10
    · subst hc
      rw [if_pos rfl] at h2 ⊢
      rw [if_pos rfl]
      obtain ⟨rest', h4⟩ := split10_head (s.drop (i + 1))
      simp only [List.cons.injEq] at h2
      refine ⟨[], twn (s.drop (i + 1)), rest', ?_, h4, by rw [List.length_nil]; omega⟩
      rw [← List.drop_drop, h1, List.drop_succ_cons, List.drop_zero, ← h2.2, h4, List.nil_append]
    · rw [if_neg hc] at h2 ⊢
      rw [if_neg (by simpa using hc)]
      obtain ⟨rest', h4⟩ := split10_head (s.drop (i + 1))
      rw [h4, cons1] at h2
      simp only [List.cons.injEq] at h2
      refine ⟨x ++ [c], twn (s.drop (i + 1)), rest', ?_, h4, ?_⟩
      · rw [Nat.add_zero, h1, ← h2.1, ← h2.2]; simp
      · rw [List.length_append]; simp; omega
theorem PL_mono (s : List UInt8) (a : Nat) : ∀ n, a + n ≤ s.length → (PL s a).Line ≤ (PL s (a + n)).Line ∧ ((PL s a).Line = (PL s (a + n)).Line → (PL s (a + n)).Column = (PL s a).Column + n)
  | 0, _ => ⟨Int.le_refl _, fun _ => by simp⟩
  | n + 1, h => by
    obtain ⟨h1, h2⟩ := PL_mono s a n (by omega)
    have hx : s[a + n]? = some s[a + n] := List.getElem?_eq_getElem (by omega)
    generalize s[a + n] = c at hx
    have e := cnt_take s (a + n) c hx
    have el : la 10 s (a + n + 1) = if c = 10 then ((a + n : Nat) : Int) else la 10 s (a + n) := by
      rw [la, hx]
      by_cases hc : c = 10 <;> simp [hc]
    unfold PL at h1 h2 ⊢
    dsimp only at h1 h2 ⊢
    rw [← Nat.add_assoc, e, el]
    by_cases hc : c = 10
    · rw [if_pos hc, if_pos hc]
      exact ⟨by omega, fun h => by omega⟩
    · rw [if_neg hc, if_neg hc]
      refine ⟨by omega, fun h => ?_⟩
      have := h2 (by omega)
      omega
theorem take_cw (p : UInt8 → Bool) : ∀ s : List UInt8, s.take (cw p s 0) = s.takeWhile p := by
  intro s
  unfold cw
  simp only [List.drop_zero, Nat.zero_add]
  induction s with
  | nil => rfl
  | cons c s ih =>
    rw [List.takeWhile_cons]
    split
    · rw [List.length_cons, List.take_succ_cons, ih]
    · rfl
theorem takeWhile_no {p : UInt8 → Bool} {c : UInt8} (h : p c = false) (s : List UInt8) : c ∉ s.takeWhile p := fun hm => by
  have : ∀ s : List UInt8, ∀ z ∈ s.takeWhile p, p z = true := fun s => by
    induction s with
    | nil => simp
    | cons d s ih =>
      intro z hz
      rw [List.takeWhile_cons] at hz
      split at hz
      · rename_i hd
        rcases List.mem_cons.1 hz with rfl | hz
        · exact hd
        · exact ih z hz
      · simp at hz
  rw [this s c hm] at h; cases h
theorem qs_no10 : ∀ m : List UInt8, (10 : UInt8) ∉ qs m
  | [] => by simp [qs]
  | c :: m => by
    rw [qs_cons]
    intro h
    rcases List.mem_append.1 h with h | h
    · unfold esc at h
      split at h
      · simp at h
      · rename_i h1
        split at h
        · simp at h; exact h1 h.symm
        · simp at h; exact h1 h.symm
    · exact qs_no10 m h
def wk (k : Int) (x : List UInt8) : List UInt8 := if k = 5 then 34 :: (qs x ++ [34]) else x
theorem tk_raw {s x r : List UInt8} {k : Int} (h : tk s = some (k, x, r)) : s = wk k x ++ r ∧ 10 ∉ wk k x ∧ (k = 5 → x.all okc = true ∧ x.length ≤ s.length) := by
  have hc := tk_cases h
  by_cases hk : k = 5
  · subst hk
    unfold wk
    rw [if_pos rfl]
    match s, h with
    | [], h => simp [tk] at h
    | c :: t, h =>
      have h0 := h
      rw [tk.eq_def] at h
      dsimp only at h
      by_cases h1 : (smB c || caB c) = true
      · rw [if_pos h1] at h
        split at h
        · cases h
        · simp only [Option.some.injEq, Prod.mk.injEq] at h
          have := h.1
          split at this
          · omega
          · split at this <;> omega
      rw [if_neg h1] at h
      by_cases h2 : c = 39
      · rw [if_pos h2] at h
        split at h
        · cases h
        · split at h
          · split at h
            · cases h
            · simp only [Option.some.injEq, Prod.mk.injEq] at h
              omega
          · cases h
      rw [if_neg h2] at h
      by_cases h3 : diB c = true
      · rw [if_pos h3] at h
        split at h
        · simp only [Option.some.injEq, Prod.mk.injEq] at h
          omega
        · cases h
      rw [if_neg h3] at h
      by_cases h4 : c = 34
      · rw [if_pos h4] at h
        cases hl : lt t with
        | none => rw [hl] at h; cases h
        | some q =>
          rw [hl] at h
          simp only [Option.map_some, Option.some.injEq, Prod.mk.injEq] at h
          obtain ⟨_, rfl, rfl⟩ := h
          obtain ⟨a1, a2⟩ := lt_sound _ t q.1 q.2 (Nat.le_refl _) hl
          have := qs_len q.1
          refine ⟨by rw [h4, a2]; simp, ?_, fun _ => ⟨a1, ?_⟩⟩
          · intro hm
            rcases List.mem_cons.1 hm with hm | hm
            · cases hm
            · rcases List.mem_append.1 hm with hm | hm
              · exact qs_no10 _ hm
              · simp at hm
          · have e := congrArg List.length a2
            have := qs_ge q.1
            simp at e ⊢
            omega
      rw [if_neg h4] at h
      split at h
      · cases h
      · simp only [Option.some.injEq, Prod.mk.injEq] at h
        omega
  · have hw : wk k x = x := by unfold wk; rw [if_neg hk]
    rw [hw]
    refine ⟨hc.2.1 hk, ?_, fun e => (hk e).elim⟩
    match s, h with
    | [], h => simp [tk] at h
    | c :: t, h =>
      rw [tk.eq_def] at h
      dsimp only at h
      by_cases h1 : (smB c || caB c) = true
      · rw [if_pos h1] at h
        split at h
        · cases h
        · simp only [Option.some.injEq, Prod.mk.injEq] at h
          rw [← h.2.1, take_cw]
          exact takeWhile_no (by decide) _
      rw [if_neg h1] at h
      by_cases h2 : c = 39
      · rw [if_pos h2] at h
        split at h
        · cases h
        · split at h
          · split at h
            · cases h
            · simp only [Option.some.injEq, Prod.mk.injEq] at h
              rw [← h.2.1, List.take_succ_cons, take_cw, h2]
              intro hm
              rcases List.mem_cons.1 hm with hm | hm
              · cases hm
              · exact takeWhile_no (by decide) _ hm
          · cases h
      rw [if_neg h2] at h
      by_cases h3 : diB c = true
      · rw [if_pos h3] at h
        split at h
        · simp only [Option.some.injEq, Prod.mk.injEq] at h
          rw [← h.2.1, take_cw]
          exact takeWhile_no (by decide) _
        · cases h
      rw [if_neg h3] at h
      by_cases h4 : c = 34
      · rw [if_pos h4] at h
        cases hl : lt t with
        | none => rw [hl] at h; cases h
        | some q =>
          rw [hl] at h
          simp only [Option.map_some, Option.some.injEq, Prod.mk.injEq] at h
          exact (hk h.1.symm).elim
      rw [if_neg h4] at h
      split at h
      · cases h
      · rename_i h5
        simp only [Option.some.injEq, Prod.mk.injEq] at h
        rw [← h.2.1]
        rw [sy] at h5 ⊢
        split
        · simp
        split
        · rename_i z hz
          have := List.mem_of_find?_eq_some hz
          have key : ∀ z ∈ SA, (10 : UInt8) ∉ z := by decide
          exact key z this
        · split
          · intro hm
            have : (10 : UInt8) = c := by simpa using hm
            subst this
            rename_i h6 _ _ h7
            revert h7; decide
          · simp
theorem skp_suffix {s s' : List UInt8} (hs : s.length ≤ 100000) (h : skp s = some s') : ∃ m, s' = s.drop m ∧ m ≤ s.length := by
  obtain ⟨v, _, hv⟩ := skip_spec s hs 0 (by omega) (fuel := s.length + 10) (Nat.le_refl _)
  rcases hv with ⟨m, m1, m2, _, m4⟩ | ⟨m, m1, _, m3⟩
  · rw [List.drop_zero, h] at m4
    exact ⟨m, Option.some.inj m4, by omega⟩
  · rw [List.drop_zero, h] at m3; cases m3
theorem Toks.facts {s : List UInt8} (hs : s.length ≤ 100000) {t : List UInt8} {l : List (Int × List UInt8 × List UInt8)} (h : Toks t l) : (∃ a, t = s.drop a) →
    (∀ q ∈ l, (∃ b, q.2.2 = s.drop b ∧ b ≤ s.length) ∧ ((q = (8, [], [])) ∨ ∃ r, tk q.2.2 = some (q.1, q.2.1, r))) ∧
    (∀ j q q', l[j]? = some q → l[j + 1]? = some q' → q'.2.2.length < q.2.2.length) ∧ (∀ q, l[0]? = some q → q.2.2.length ≤ t.length) ∧ (∀ j q, l[j]? = some q → (q.1 = 8 ↔ j + 1 = l.length)) := by
  induction h with
  | @done t h =>
    rintro ⟨a, ha⟩
    refine ⟨fun q hq => ?_, fun j q q' h1 h2 => ?_, fun q hq => ?_, fun j q hq => ?_⟩
    · have : q = (8, [], []) := by simpa using hq
      subst this
      exact ⟨⟨s.length, by simp, Nat.le_refl _⟩, .inl rfl⟩
    · simp at h2
    · have : q = (8, [], []) := by simpa using hq.symm
      subst this; simp
    · rcases j with _ | j
      · have : q = (8, [], []) := by simpa using hq.symm
        subst this; simp
      · simp at hq
  | @next t s' r x k l h h1 h2 h3 ih =>
    rintro ⟨a, ha⟩
    have htl : t.length ≤ s.length := by rw [ha, List.length_drop]; omega
    obtain ⟨m, m1, m2⟩ := skp_suffix (by omega) h
    have hsl := skp_len (by omega) h
    have hkl := tk_len (by omega) h2
    have hraw := (tk_raw h2).1
    have hk := (tk_cases h2).1
    have hb : s' = s.drop (s.length - s'.length) ∧ s.length - s'.length ≤ s.length := by
      refine ⟨?_, by omega⟩
      have e : s' = s.drop (a + m) := by rw [← List.drop_drop, ← ha, m1]
      have el := congrArg List.length e
      rw [List.length_drop] at el
      by_cases hz : a + m ≤ s.length
      · rw [show s.length - s'.length = a + m by omega]; exact e
      · have : s' = [] := List.length_eq_zero_iff.1 (by omega)
        exact (h1 this).elim
    have hr : ∃ a, r = s.drop a := by
      refine ⟨s.length - s'.length + (wk k x).length, ?_⟩
      rw [← List.drop_drop, ← hb.1]
      have : ∀ u : List UInt8, u = wk k x ++ r → r = u.drop (wk k x).length := fun u hu => by rw [hu]; simp
      exact this s' hraw
    obtain ⟨f1, f2, f3, f4⟩ := ih hr
    refine ⟨fun q hq => ?_, fun j q q' g1 g2 => ?_, fun q hq => ?_, fun j q hq => ?_⟩
    · rcases List.mem_cons.1 hq with rfl | hq
      · exact ⟨⟨_, hb⟩, .inr ⟨r, h2⟩⟩
      · exact f1 q hq
    · rcases j with _ | j
      · have e : q = (k, x, s') := by simpa using g1.symm
        subst e
        have := f3 q' (by simpa using g2)
        show q'.2.2.length < s'.length
        omega
      · exact f2 j q q' (by simpa using g1) (by simpa using g2)
    · have e : q = (k, x, s') := by simpa using hq.symm
      subst e
      exact hsl
    · have hln : l ≠ [] := by cases h3 <;> simp
      have hll : 0 < l.length := List.length_pos_iff.2 hln
      rcases j with _ | j
      · have e : q = (k, x, s') := by simpa using hq.symm
        subst e
        simp only [List.length_cons]
        show k = 8 ↔ _
        constructor
        · intro e; omega
        · intro e; omega
      · have := f4 j q (by simpa using hq)
        simp only [List.length_cons]
        rw [this]; omega
end Go.Proofs.YthbjlmoaceaeeaaDoor
set_option linter.unusedVariables false
set_option linter.unusedSimpArgs false
namespace Go.Proofs.YthbjlmoaceaeeaaDoor
open Go Go.Abs
theorem twn_append : ∀ (w r : List UInt8), 10 ∉ w → twn (w ++ r) = w ++ twn r
  | [], r, _ => rfl
  | c :: w, r, h => by
    have hc : ¬ c = 10 := fun e => h (by simp [e])
    rw [List.cons_append, twn_cons, if_neg hc, twn_append w r (fun e => h (List.mem_cons_of_mem _ e)), List.cons_append]
theorem rest_M (s : List UInt8) (hs : s.length ≤ 100000) (i : Nat) (hi : i ≤ s.length) : M.law02_LexerPlaces_1 (PL s i) (Lib.split s [10]) = some (twn (s.drop i), true) := by
  obtain ⟨x, y, rest, h1, h2, h3⟩ := line_at s i hi
  obtain ⟨rest', h4⟩ := split10_head (s.drop i)
  have hy : y = twn (s.drop i) := by rw [h4] at h2; exact (List.cons.inj h2).1.symm
  have hL : (Lib.split s [10])[Lib.countByte (s.take i) 10]? = some (x ++ y) := by
    have := congrArg (fun z => z[0]?) h1
    simpa [List.getElem?_drop] using this
  have hlt : Lib.countByte (s.take i) 10 < (Lib.split s [10]).length := (List.getElem?_eq_some_iff.1 hL).1
  have hsh := split_short (List.mem_of_getElem? hL)
  have hxy : (x ++ y).length = x.length + y.length := List.length_append
  have hcl : Lib.countByte (s.take i) 10 ≤ (s.take i).length := List.count_le_length
  have hcl2 : (s.take i).length ≤ i := by simp; omega
  have e1 : (PL s i).Line = 1 + (Lib.countByte (s.take i) 10 : Nat) := rfl
  have e2 : (PL s i).Column = (x.length : Int) + 1 := by show (i : Int) - la 10 s i = _; omega
  rw [M.law02_LexerPlaces_1, e1, e2]
  rw [if_neg (show ¬ ltI (1 + ((Lib.countByte (s.take i) 10 : Nat) : Int)) 1 = true from fun h => by have := ltT h; omega)]
  rw [if_neg (show ¬ ltI ((Lib.split s [10]).length : Int) (1 + ((Lib.countByte (s.take i) 10 : Nat) : Int)) = true from fun h => by have := ltT h; omega)]
  rw [if_neg (show ¬ ltI ((x.length : Int) + 1) 1 = true from fun h => by have := ltT h; omega)]
  have e3 : (1 + ((Lib.countByte (s.take i) 10 : Nat) : Int) - 1) = ((Lib.countByte (s.take i) 10 : Nat) : Int) := by omega
  have e4 : ((x.length : Int) + 1 - 1) = (x.length : Int) := by omega
  rw [e3, e4, idxN, hL]
  simp only [obind]
  rw [chk64 (by omega) (by omega)]
  simp only [obind]
  rw [show ltI (((x ++ y).length : Int) + 1) ((x.length : Int) + 1) = false from decide_eq_false (by omega)]
  simp only [obind, Bool.false_eq_true, if_false]
  rw [chk64 (by omega) (by omega)]
  simp only [obind]
  rw [idxN, hL]
  simp only [obind]
  rw [chk64 (by omega) (by omega)]
  simp only [obind]
  rw [subD (x ++ y) x.length (by omega)]
  simp only [obind]
  rw [List.drop_left, hy]
theorem places_loop (s : List UInt8) (hs : s.length ≤ 1500) {fuel : Nat} (hf : 5000 ≤ fuel) (v : (List Api.Token) × Api.Pos × Int) (l : List (Int × List UInt8 × List UInt8)) (hv : v.1 = l.map (tokOf s)) (hl : l.length ≤ 2000)
    (f1 : ∀ q ∈ l, (∃ b, q.2.2 = s.drop b ∧ b ≤ s.length) ∧ ((q = (8, [], [])) ∨ ∃ r, tk q.2.2 = some (q.1, q.2.1, r)))
    (f2 : ∀ j q q', l[j]? = some q → l[j + 1]? = some q' → q'.2.2.length < q.2.2.length) (f4 : ∀ j q, l[j]? = some q → (q.1 = 8 ↔ j + 1 = l.length)) :
    ∀ (n i k : Nat), i + n = l.length → n + 1 ≤ k → M.law02_LexerPlaces_l1 fuel v (Lib.split s [10]) k i = some (.inr ()) := by
  intro n
  have hvl : v.1.length = l.length := by rw [hv]; simp
  induction n with
  | zero =>
    intro i k hi hk
    obtain ⟨g, rfl⟩ : ∃ g, k = g + 1 := ⟨k - 1, by omega⟩
    rw [M.law02_LexerPlaces_l1, if_neg (show ¬ ltI (i : Int) (v.1.length : Int) = true from fun h => by have := ltT h; omega)]
  | succ n ih =>
    intro i k hi hk
    obtain ⟨g, rfl⟩ : ∃ g, k = g + 1 := ⟨k - 1, by omega⟩
    have hq : l[i]? = some l[i] := List.getElem?_eq_getElem (by omega)
    generalize l[i] = q at hq
    have hx : v.1[i]? = some (tokOf s q) := by rw [hv, List.getElem?_map, hq]; rfl
    obtain ⟨⟨b, b1, b2⟩, hk8⟩ := f1 q (List.mem_of_getElem? hq)
    have hb : s.length - q.2.2.length = b := by rw [b1, List.length_drop]; omega
    have e1 : tokOf s q = Api.Token.mk q.1 q.2.1 (PL s b) := by unfold tokOf; rw [hb]
    have e8 : eqI q.1 8 = eqI (i : Int) ((v.1.length : Int) - 1) := by
      have := f4 i q hq
      by_cases h : q.1 = 8
      · have h' := this.1 h
        rw [show eqI q.1 8 = true from decide_eq_true h, show eqI (i : Int) ((v.1.length : Int) - 1) = true from decide_eq_true (by omega)]
      · have h' : ¬ i + 1 = l.length := fun e => h (this.2 e)
        rw [show eqI q.1 8 = false from decide_eq_false h, show eqI (i : Int) ((v.1.length : Int) - 1) = false from decide_eq_false (by omega)]
    have hB : ((if ltI 0 ((i : Nat) : Int) then
        (idx v.1 (((i : Nat) : Int) - 1)).bind fun x62 =>
        if ltI (PL s b).Line x62.At.Line then
          some true
        else
          if eqI (PL s b).Line x62.At.Line then
            if leI (PL s b).Column x62.At.Column then
              some (!(eqI q.1 8))
            else
              some false
          else
            some false
      else
        some false : Option Bool)) = some false := by
      by_cases h0 : i = 0
      · rw [if_neg (show ¬ ltI 0 (i : Int) = true from fun h => by have := ltT h; omega)]
      · obtain ⟨j, rfl⟩ : ∃ j, i = j + 1 := ⟨i - 1, by omega⟩
        rw [if_pos (show ltI 0 ((j + 1 : Nat) : Int) = true from decide_eq_true (by omega)), show ((j + 1 : Nat) : Int) - 1 = (j : Int) by omega, idxN]
        have hq0 : l[j]? = some l[j] := List.getElem?_eq_getElem (by omega)
        generalize l[j] = q0 at hq0
        have hx0 : v.1[j]? = some (tokOf s q0) := by rw [hv, List.getElem?_map, hq0]; rfl
        obtain ⟨⟨a, a1, a2⟩, _⟩ := f1 q0 (List.mem_of_getElem? hq0)
        have ha : s.length - q0.2.2.length = a := by rw [a1, List.length_drop]; omega
        have e0 : tokOf s q0 = Api.Token.mk q0.1 q0.2.1 (PL s a) := by unfold tokOf; rw [ha]
        have hlt := f2 j q0 q hq0 hq
        have hqb : q.2.2.length = s.length - b := by rw [b1, List.length_drop]
        have hqa : q0.2.2.length = s.length - a := by rw [a1, List.length_drop]
        have hm := PL_mono s a (b - a) (by omega)
        rw [show a + (b - a) = b by omega] at hm
        rw [hx0, e0]
        simp only [obind]
        rw [if_neg (show ¬ ltI (PL s b).Line (PL s a).Line = true from fun h => by have := ltT h; omega)]
        by_cases hl : (PL s b).Line = (PL s a).Line
        · have := hm.2 hl.symm
          rw [if_pos (show eqI (PL s b).Line (PL s a).Line = true from decide_eq_true hl), if_neg (show ¬ leI (PL s b).Column (PL s a).Column = true from fun h => by have := leT h; omega)]
        · rw [if_neg (show ¬ eqI (PL s b).Line (PL s a).Line = true from fun h => hl (eqT h))]
    rw [M.law02_LexerPlaces_l1, if_pos (show ltI (i : Int) (v.1.length : Int) = true from decide_eq_true (by omega)), hx, e1]
    simp only [obind]
    rw [rest_M s (by omega) b b2]
    simp only [obind, Bool.not_true, Bool.false_eq_true, if_false]
    by_cases h5 : q.1 = 5
    · rw [if_pos (show eqI q.1 5 = true from decide_eq_true h5)]
      obtain ⟨r, hr⟩ : ∃ r, tk q.2.2 = some (q.1, q.2.1, r) := by
        rcases hk8 with e | h
        · rw [e] at h5; cases h5
        · exact h
      obtain ⟨c1, c2, c3⟩ := tk_raw hr
      obtain ⟨c4, c5⟩ := c3 h5
      have hql : q.2.2.length ≤ s.length := by rw [b1, List.length_drop]; omega
      rw [Quote_M (s := q.2.1) (by omega) (by omega), if_pos c4]
      simp only [obind]
      have hw : wk q.1 q.2.1 = 34 :: (qs q.2.1 ++ [34]) := by unfold wk; rw [if_pos h5]
      rw [hw] at c1 c2
      rw [← b1, c1, twn_append _ _ c2, has_M]
      have hp : pre ((34 :: (qs q.2.1 ++ [34])) ++ twn r) (34 :: (qs q.2.1 ++ [34])) = true := decide_eq_true (by rw [List.take_left])
      rw [show eqI 0 0 = true from rfl, hp, e8]
      simp only [obind, Bool.not_true, Bool.false_eq_true, if_false]
      have hBB : ∀ z : Bool, eqB z z = true := fun z => by cases z <;> rfl
      rw [hBB]
      simp only [Bool.not_true, Bool.false_eq_true, if_false]
      rw [e8] at hB
      rw [hB]
      simp only [obind, Bool.false_eq_true, if_false]
      exact ih (i + 1) g (by omega) (by omega)
    · rw [if_neg (show ¬ eqI q.1 5 = true from fun h => h5 (eqT h))]
      have hw : wk q.1 q.2.1 = q.2.1 := by unfold wk; rw [if_neg h5]
      have hp : pre (twn (s.drop b)) q.2.1 = true := by
        rcases hk8 with e | ⟨r, hr⟩
        · rw [e]; exact decide_eq_true rfl
        · obtain ⟨c1, c2, _⟩ := tk_raw hr
          rw [hw] at c1 c2
          rw [← b1, c1, twn_append _ _ c2]
          exact decide_eq_true (by rw [List.take_left])
      rw [has_M, hp, e8]
      simp only [obind, Bool.not_true, Bool.false_eq_true, if_false]
      have hBB : ∀ z : Bool, eqB z z = true := fun z => by cases z <;> rfl
      rw [hBB]
      simp only [Bool.not_true, Bool.false_eq_true, if_false]
      rw [e8] at hB
      rw [hB]
      simp only [obind, Bool.false_eq_true, if_false]
      exact ih (i + 1) g (by omega) (by omega)
theorem Places_M (s : List UInt8) {fuel : Nat} (hf : 5000 ≤ fuel) : M.law02_LexerPlaces fuel s = some true := by
  rw [M.law02_LexerPlaces, awake_M (by omega)]
  simp only [obind, Bool.not_true, Bool.false_eq_true, if_false]
  by_cases hs : 1500 < s.length
  · rw [show ltI 1500 (s.length : Int) = true from decide_eq_true (by omega)]; rfl
  rw [show ltI 1500 (s.length : Int) = false from decide_eq_false (by omega)]
  simp only [Bool.false_eq_true, if_false]
  obtain ⟨A, a1, a2⟩ := tokens_spec s (by omega) (fuel := fuel) (by omega)
  rw [a1]
  simp only [obind]
  rw [M.strings_Split, if_pos ⟨by omega, by decide⟩]
  simp only [obind]
  rcases a2 with ⟨a0, la', aT, aL⟩ | ⟨a0, aL, _, i, i1, i2⟩
  · rw [show eqI A.2.2 0 = true from decide_eq_true a0]
    simp only [Bool.not_true, Bool.false_eq_true, if_false]
    obtain ⟨f1, f2, f3, f4⟩ := aT.facts (s := s) (by omega) ⟨0, by simp⟩
    have hl := aT.len (by omega)
    rw [places_loop s (by omega) hf A la' aL (by omega) f1 f2 f4 la'.length 0 fuel (by omega) (by omega)]
    obtain ⟨l', hl'⟩ := aT.last
    have : 0 < A.1.length := by rw [aL, hl']; simp
    simp only [obind, Sum.elim_inr]
    rw [show ltI 0 (A.1.length : Int) = true from decide_eq_true (by omega)]
  · rw [show eqI A.2.2 0 = false from decide_eq_false a0, i2, aL]
    simp only [Bool.not_false, if_true]
    rw [rest_M s (by omega) i i1]
    rfl
theorem LexerPlaces_true (s : List UInt8) (_ : s.length ≤ 140737488351232) : ∃ fuel, M.law02_LexerPlaces fuel s = some true := ⟨5000, Places_M s (by omega)⟩
end Go.Proofs.YthbjlmoaceaeeaaDoor
