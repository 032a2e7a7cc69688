/- For every input the law PrinterUnits returns true. Part 13 of 16. No condition. -/
import Derived.Test.YtlhikhaailhoaaaGreatDoorPUl
set_option linter.unusedVariables false
set_option linter.unnecessarySimpa false
set_option linter.unusedSimpArgs false
set_option maxRecDepth 100000
set_option maxHeartbeats 1000000
namespace Go.Proofs.YtlhikhaailhoaaaGreatDoor
open Go Go.Abs
def sz (t : zJC) : Nat := 1 + (t.L.map sz).sum
termination_by SizeOf.sizeOf t
decreasing_by all_goals (cases t; simp only [zJC.mk.sizeOf_spec]; have := List.sizeOf_lt_of_mem ‹_›; simp only at this; omega)
def mz (t : zJC) : Nat := 200 + t.S.length + t.Names.length + t.L.length + (t.L.map mz).sum
termination_by SizeOf.sizeOf t
decreasing_by all_goals (cases t; simp only [zJC.mk.sizeOf_spec]; have := List.sizeOf_lt_of_mem ‹_›; simp only at this; omega)
def ok (t : zJC) (w : Bool) : Bool := (nd t w).1 && ((nd t w).2 && (t.L.map (fun x => ok x (eqI t.Op 74))).all id)
termination_by SizeOf.sizeOf t
decreasing_by all_goals (cases t; simp only [zJC.mk.sizeOf_spec]; have := List.sizeOf_lt_of_mem ‹_›; simp only at this; omega)
theorem sz_eq (t : zJC) : sz t = 1 + (t.L.map sz).sum := by rw [sz]
theorem mz_eq (t : zJC) : mz t = 200 + t.S.length + t.Names.length + t.L.length + (t.L.map mz).sum := by rw [mz]
theorem ok_eq (t : zJC) (w : Bool) : ok t w = ((nd t w).1 && ((nd t w).2 && t.L.all (fun x => ok x (eqI t.Op 74)))) := by rw [ok, List.all_map]; rfl
theorem sum_mem (f : zJC → Nat) (l : List zJC) (x : zJC) (h : x ∈ l) : f x ≤ (l.map f).sum := by
 induction l with
 | nil => cases h
 | cons y r ih =>
  rw [List.map_cons, List.sum_cons]
  rcases List.mem_cons.1 h with rfl | h
  ·omega
  ·have := ih h; omega
theorem sz_mem {t x : zJC} (h : x ∈ t.L) : sz x + 1 ≤ sz t := by have := sum_mem sz t.L x h; rw [sz_eq t]; omega
theorem mz_mem {t x : zJC} (h : x ∈ t.L) : mz x + 200 ≤ mz t := by have := sum_mem mz t.L x h; rw [mz_eq t]; omega
theorem sum_len (f : zJC → Nat) (h : ∀ x, 1 ≤ f x) (l : List zJC) : l.length ≤ (l.map f).sum := by
 induction l with
 | nil => exact Nat.le_refl _
 | cons y r ih => have := h y; rw [List.map_cons, List.sum_cons, List.length_cons]; omega
theorem zBf (t : zJC) : 1 ≤ sz t := by rw [sz_eq]; omega
theorem len_sz (t : zJC) : t.L.length + 1 ≤ sz t := by have := sum_len sz zBf t.L; rw [sz_eq]; omega
theorem enough {t : zJC} (hs : sz t ≤ 100000000) {fuel : Nat} (hf : mz t ≤ fuel + 100) : Enough fuel t := by
 rw [mz_eq] at hf
 have := len_sz t
 exact ⟨by omega, by omega, by omega, by omega⟩
theorem nd_w (t : zJC) (h : t.Op ≠ 43) (w v : Bool) : nd t w = nd t v := by
 unfold nd
 split <;> first | rfl | (exact absurd ‹_› h)
theorem ok_w (t : zJC) (h : t.Op ≠ 43) (w v : Bool) : ok t w = ok t v := by rw [ok_eq, ok_eq, nd_w t h w v]
theorem nk (t : zJC) (w : Bool) {fuel : Nat} (hf : Enough fuel t) : zCo fuel t w := by
 refine ops_or t.Op _ (fun h => nk1 t h w hf) (fun h => nk2 t h w hf) (fun h => nk3 t h w hf) (fun h => nk4 t h w hf) (fun h => nk5 t h w hf) (fun h => nk11 t h w hf) (fun h => nk12 t h w hf) (fun h => nk13 t h w hf) (fun h => nk14 t h w hf) (fun h => nk15 t h w hf) (fun h => nk21 t h w hf) (fun h => nk22 t h w hf) (fun h => nk23 t h w hf) (fun h => nk24 t h w hf) (fun h => nk25 t h w hf) (fun h => nk26 t h w hf) (fun h => nk27 t h w hf) (fun h => nk28 t h w hf) (fun h => nk29 t h w hf) (fun h => nk30 t h w hf) (fun h => nk31 t h w hf) (fun h => nk32 t h w hf) (fun h => nk33 t h w hf) (fun h => nk34 t h w hf) (fun h => nk41 t h w hf) (fun h => nk42 t h w hf) (fun h => nk43 t h w hf) (fun h => nk44 t h w hf) (fun h => nk45 t h w hf) (fun h => nk46 t h w hf) (fun h => nk47 t h w hf) (fun h => nk48 t h w hf) (fun h => nk49 t h w hf) (fun h => nk50 t h w hf) (fun h => nk61 t h w hf) (fun h => nk62 t h w hf) (fun h => nk63 t h w hf) (fun h => nk64 t h w hf) (fun h => nk65 t h w hf) (fun h => nk66 t h w hf) (fun h => nk71 t h w hf) (fun h => nk72 t h w hf) (fun h => nk73 t h w hf) (fun h => nk74 t h w hf) (fun h => nk81 t h w hf) (fun h => nk82 t h w hf) (fun h => nk83 t h w hf) (fun h => nk84 t h w hf) (fun h => nk85 t h w hf) (fun h => nk86 t h w hf) (fun h => nk87 t h w hf) (fun h => nk88 t h w hf) ?_
 intros
 have c0 : zAQ t.Op = some 0 := by
  have f : ∀ a b : Int, ¬ (a ≤ t.Op ∧ t.Op ≤ b) → (leI a t.Op && leI t.Op b) = false := fun a b hab => by
   unfold leI
   by_cases h1 : a ≤ t.Op
   ·rw [decide_eq_false (p := t.Op ≤ b) (by omega), Bool.and_false]
   ·rw [decide_eq_false h1, Bool.false_and]
  have g : ∀ (a b : Int) (c : Bool), ¬ (a ≤ t.Op ∧ t.Op ≤ b) → (leI a t.Op && (leI t.Op b && c)) = false := fun a b c hab => by
   rw [← Bool.and_assoc, f a b hab, Bool.false_and]
  rw [zAQ, f 1 5 (by omega), f 11 15 (by omega), g 21 34 _ (by omega), g 41 50 _ (by omega), f 61 66 (by omega), f 71 74 (by omega), f 81 88 (by omega)]
  rfl
 have n0 : nd t w = (fe t false false false, false) := by
  unfold nd
  split <;> first | contradiction | rfl
 refine ⟨?_, ?_, ?_⟩
 ·have u : zAS t.Op = some (zJA.mk false false false) := by simp [zAS, eqI, *]
  rw [zAZ, u, zAg, zCn t false false false, n0]
  simp only [eqD, *, decide_false, Bool.false_eq_true, if_false]
  cases fe t false false false <;> rfl
 ·rw [zAV, n0]
  simp only [eqD, *, decide_false, Bool.false_eq_true, if_false]
 ·rw [zAa, c0, n0, zAg]
  simp only [eqD, *, decide_false, Bool.false_eq_true, if_false, Bool.false_and, Bool.and_false, Int.reduceEq, Bool.or_false]
  rfl
theorem form_loop (F : zJC → Int → zJC → Int → Option (Bool × Int)) (d : Int) (t : zJC) (l : List zJC)
  (hF : ∀ x ∈ l, ∀ a : Int, 0 ≤ a → a + sz x ≤ 20000 → ∃ a', F x d t a = some (!ok x (eqI t.Op 74), a') ∧ a ≤ a' ∧ a' ≤ a + sz x) :
  ∀ (n i k : Nat) (a : Int), i + n = l.length → n + 1 ≤ k → 0 ≤ a → a + (((l.drop i).map sz).sum : Nat) ≤ 20000 → ∃ o, zAi F l d t k a i = some o ∧
   (((l.drop i).all (fun x => ok x (eqI t.Op 74)) = true ∧ ∃ a', o = .inr a' ∧ a ≤ a' ∧ a' ≤ a + (((l.drop i).map sz).sum : Nat)) ∨ ((l.drop i).all (fun x => ok x (eqI t.Op 74)) = false ∧ ∃ (j : Nat) (a' : Int), o = .inl ((j : Int), a') ∧ a ≤ a' ∧ a' ≤ a + (((l.drop i).map sz).sum : Nat))) := by
 intro n
 induction n with
 | zero =>
  intro i k a hi hk ha hs
  obtain ⟨g, rfl⟩ : ∃ g, k = g + 1 := ⟨k - 1, by omega⟩
  rw [zAi, if_neg (ltN (by omega)), List.drop_eq_nil_of_le (by omega)]
  exact ⟨_, rfl, .inl ⟨rfl, a, rfl, by omega, by simp⟩⟩
 | succ n ih =>
  intro i k a hi hk ha hs
  obtain ⟨g, rfl⟩ : ∃ g, k = g + 1 := ⟨k - 1, by omega⟩
  have hx : l[i]? = some l[i] := List.getElem?_eq_getElem (by omega)
  have hd : l.drop i = l[i] :: l.drop (i + 1) := List.drop_eq_getElem_cons (by omega)
  have hm : l[i] ∈ l := List.getElem_mem (by omega)
  rw [zAi, if_pos (ltP (by omega)), hx]
  rw [hd, List.map_cons, List.sum_cons] at hs ⊢
  rw [List.all_cons]
  generalize l[i] = x at hm hs
  obtain ⟨a', a1, a2, a3⟩ := hF x hm a ha (by omega)
  rw [zAg, a1, zAg]
  cases hk : ok x (eqI t.Op 74)
  ·exact ⟨_, rfl, .inr ⟨rfl, i, a', rfl, a2, by omega⟩⟩
  ·simp only [Bool.not_true, Bool.false_eq_true, if_false, Bool.true_and]
   obtain ⟨o, o1, o2⟩ := ih (i + 1) g a' (by omega) (by omega) (by omega) (by omega)
   refine ⟨o, o1, ?_⟩
   rcases o2 with ⟨h, a4, h4, h5, h6⟩ | ⟨h, j, a4, h4, h5, h6⟩
   ·exact .inl ⟨h, a4, h4, by omega, by omega⟩
   ·exact .inr ⟨h, j, a4, h4, by omega, by omega⟩
theorem formed_ok : ∀ (n : Nat) (t : zJC), sz t ≤ n → sz t ≤ 1000 → ∀ (w : Bool) (fuel : Nat) (d c : Int), mz t ≤ fuel → 1 ≤ d → d + sz t ≤ 401 → 0 ≤ c → c + sz t ≤ 20000 → ∃ c', zCZ fuel t d w c = some (ok t w, c') ∧ c ≤ c' ∧ c' ≤ c + sz t := by
 intro n
 induction n with
 | zero => intro t h; have := zBf t; omega
 | succ n ih =>
  intro t hn hs w fuel d c hf hd1 hd hc1 hc
  have hp := zBf t
  have hm := mz_eq t
  obtain ⟨g, rfl⟩ : ∃ g, fuel = g + 4 := ⟨fuel - 4, by omega⟩
  obtain ⟨n1, n2, _⟩ := nk t w (enough (t := t) (by omega) (fuel := g + 3) (by omega))
  rw [zCZ, chk64 (by omega) (by omega), zAg, show ltI 20000 (c + 1) = false from decide_eq_false (by omega), show ltI 400 d = false from decide_eq_false (by omega), n1, zAg, ok_eq]
  simp only [Bool.false_eq_true, if_false]
  cases (nd t w).1
  ·exact ⟨c + 1, rfl, by omega, by omega⟩
  rw [n2, zAg]
  cases (nd t w).2
  ·exact ⟨c + 1, rfl, by omega, by omega⟩
  simp only [Bool.not_true, Bool.false_eq_true, if_false, zAg, Bool.true_and]
  have hse := sz_eq t
  obtain ⟨o, o1, o2⟩ := form_loop (zCS (g + 1)) d t t.L (fun x hx a ha1 ha2 => by
   have h1 := sz_mem hx
   have h2 := mz_mem hx
   obtain ⟨a', q1, q2, q3⟩ := ih x (by omega) (by omega) (eqI t.Op 74) g (d + 1) a (by omega) (by omega) (by omega) ha1 ha2
   refine ⟨a', ?_, q2, q3⟩
   rw [zCS, chk64 (by omega) (by omega), zAg, q1]; rfl) t.L.length 0 (g + 1) (c + 1) (by omega) (by omega) (by omega) (by rw [List.drop_zero]; omega)
  rw [zBG, zBO, o1]
  rw [List.drop_zero] at o2
  rcases o2 with ⟨h, a4, rfl, h5, h6⟩ | ⟨h, j, a4, rfl, h5, h6⟩
  ·rw [h]; exact ⟨a4, rfl, by omega, by omega⟩
  ·rw [h]
   refine ⟨a4, ?_, by omega, by omega⟩
   simp only [zAg, Sum.elim_inl]
   rw [show leI 0 (j : Int) = true from decide_eq_true (by omega)]; rfl
theorem nodes_ok : ∀ (n : Nat) (t : zJC), sz t ≤ n → sz t ≤ 1000 → ∀ (w : Bool) (fuel : Nat), mz t ≤ fuel → zC9 fuel t w = some (ok t w) := by
 intro n
 induction n with
 | zero => intro t h; have := zBf t; omega
 | succ n ih =>
  intro t hn hs w fuel hf
  have hm := mz_eq t
  obtain ⟨g, rfl⟩ : ∃ g, fuel = g + 1 := ⟨fuel - 1, by omega⟩
  obtain ⟨_, _, n3⟩ := nk t w (enough (t := t) (by omega) (fuel := g) (by omega))
  have hI : ∀ x ∈ t.L, ∀ v, zC9 g x v = some (ok x v) := fun x hx v => by
   have h1 := sz_mem hx
   have h2 := mz_mem hx
   exact ih x (by omega) (by omega) v g (by omega)
  rw [zC9, n3, zAg, ok_eq]
  by_cases h : t.Op = 74
  ·have hE : eqI t.Op 74 = true := decide_eq_true h
   rw [hE]
   cases hA : (nd t w).1
   ·rfl
   cases hB : (nd t w).2
   ·rfl
   rw [nd, h] at hB
   unfold xw
   match hL : t.L, hB with
   | [x, y], hB =>
    simp only [hL, Bool.and_eq_true] at hB
    have hx43 : x.Op ≠ 43 := fun e => by rw [e] at hB; exact absurd hB.1 (by decide)
    have hI1 := hI x (by rw [hL]; simp) false
    have hI2 := hI y (by rw [hL]; simp) true
    obtain ⟨g, rfl⟩ : ∃ k, g = k + 3 := ⟨g - 3, by omega⟩
    simp only [hE, if_true, Bool.true_and]
    have hy : ok y true = true → eqS y.S [] = true := fun e => by
     rw [ok_eq] at e
     have e1 := (Bool.and_eq_true _ _ ▸ e).1
     rw [nd, of_decide_eq_true hB.2] at e1
     simp only [if_true, Bool.and_eq_true] at e1
     exact e1.2.1
    rw [zB8, zB8, zB8, hL, hE, List.all_cons, List.all_cons, List.all_nil, ok_w x hx43 true false]
    simp only [List.getElem?_cons_zero, List.getElem?_cons_succ, if_true, zAg]
    rw [show ltI ((0 : Nat) : Int) (([x, y] : List zJC).length : Int) = true from rfl, show ltI ((0 + 1 : Nat) : Int) (([x, y] : List zJC).length : Int) = true from rfl, show ltI ((0 + 1 + 1 : Nat) : Int) (([x, y] : List zJC).length : Int) = false from rfl, show eqI ((0 : Nat) : Int) 1 = false from rfl, show eqI ((0 + 1 : Nat) : Int) 1 = true from rfl, hI1, hI2]
    cases hS : eqS y.S []
    ·have : ok y true = false := by
      cases hk : ok y true
      ·rfl
      ·rw [hy hk] at hS; cases hS
     rw [this]; cases ok x false <;> rfl
    ·cases ok x false <;> cases ok y true <;> rfl
   | [], hB => simp only [hL] at hB; cases hB
   | [_], hB => simp only [hL] at hB; cases hB
   | _ :: _ :: _ :: _, hB => simp only [hL] at hB; cases hB
  ·have hE : eqI t.Op 74 = false := decide_eq_false h
   rw [hE, show xw t = true by unfold xw; rw [hE]; rfl]
   cases (nd t w).1
   ·rfl
   cases (nd t w).2
   ·rfl
   simp only [Bool.and_true, Bool.not_true, Bool.false_eq_true, if_false, Bool.true_and]
   rw [loopQ t.L (fun x => ok x false) (zB8 (zC9 g) t) false (fun k i x hx hi => by
    rw [zB8, if_pos (ltP hi), hx, zAg, hE]
    simp only [Bool.false_eq_true, if_false, hI x (List.mem_of_getElem? hx), zAg]
    cases ok x false <;> rfl) (fun k i hi => by
    rw [zB8, if_neg (ltN (by omega))]) 0 g (by omega) (by omega), List.drop_zero, contD]
   cases t.L.all (fun x => ok x false) <;> rfl
theorem size_ok : ∀ (n : Nat) (t : zJC), sz t ≤ n → sz t ≤ 1000 → ∀ (fuel : Nat), mz t ≤ fuel → zDQ fuel t = some (sz t : Int) := by
 intro n
 induction n with
 | zero => intro t h; have := zBf t; omega
 | succ n ih =>
  intro t hn hs fuel hf
  have hm := mz_eq t
  have hz := sz_eq t
  obtain ⟨g, rfl⟩ : ∃ g, fuel = g + 1 := ⟨fuel - 1, by omega⟩
  have hI : ∀ x ∈ t.L, zDQ g x = some (sz x : Int) := fun x hx => by
   have h1 := sz_mem hx
   have h2 := mz_mem hx
   exact ih x (by omega) (by omega) g (by omega)
  have hl : ∀ (n i k a : Nat), i + n = t.L.length → n + 1 ≤ k → a + ((t.L.drop i).map sz).sum ≤ 1000 → zDB (zDQ g) t k (a : Int) i = some ((a + ((t.L.drop i).map sz).sum : Nat) : Int) := by
   intro n
   induction n with
   | zero =>
    intro i k a hi hk ha
    obtain ⟨q, rfl⟩ : ∃ g, k = g + 1 := ⟨k - 1, by omega⟩
    rw [zDB, if_neg (ltN (by omega)), List.drop_eq_nil_of_le (by omega)]; rfl
   | succ n ih2 =>
    intro i k a hi hk ha
    obtain ⟨q, rfl⟩ : ∃ g, k = g + 1 := ⟨k - 1, by omega⟩
    have hx : t.L[i]? = some t.L[i] := List.getElem?_eq_getElem (by omega)
    have hd : t.L.drop i = t.L[i] :: t.L.drop (i + 1) := List.drop_eq_getElem_cons (by omega)
    have hq : t.L[i] ∈ t.L := List.getElem_mem (by omega)
    rw [zDB, if_pos (ltP (by omega)), hx]
    rw [hd, List.map_cons, List.sum_cons] at ha ⊢
    generalize t.L[i] = x at hq ha
    rw [zAg, hI x hq, zAg, chk64 (by omega) (by omega), zAg, show (a : Int) + (sz x : Int) = ((a + sz x : Nat) : Int) by omega, ih2 (i + 1) q (a + sz x) (by omega) (by omega) (by omega)]
    congr 2; omega
  rw [zDQ, show (1 : Int) = ((1 : Nat) : Int) from rfl, hl t.L.length 0 g 1 (by omega) (by omega) (by rw [List.drop_zero]; omega), List.drop_zero, hz]; rfl
theorem depth_ok : ∀ (n : Nat) (t : zJC), sz t ≤ n → sz t ≤ 1000 → ∀ (fuel : Nat), mz t ≤ fuel → ∃ d : Int, zDC fuel t = some d ∧ d ≤ sz t := by
 intro n
 induction n with
 | zero => intro t h; have := zBf t; omega
 | succ n ih =>
  intro t hn hs fuel hf
  have hm := mz_eq t
  have hz := sz_eq t
  obtain ⟨g, rfl⟩ : ∃ g, fuel = g + 1 := ⟨fuel - 1, by omega⟩
  have hI : ∀ x ∈ t.L, ∃ d : Int, zDC g x = some d ∧ d + 1 ≤ sz t := fun x hx => by
   have h1 := sz_mem hx
   have h2 := mz_mem hx
   obtain ⟨d, d1, d2⟩ := ih x (by omega) (by omega) g (by omega)
   exact ⟨d, d1, by omega⟩
  have hl : ∀ (n i k : Nat) (a : Int), i + n = t.L.length → n + 1 ≤ k → 0 ≤ a → a + 1 ≤ sz t → ∃ b : Int, zCt (zDC g) t k a i = some b ∧ 0 ≤ b ∧ b + 1 ≤ sz t := by
   intro n
   induction n with
   | zero =>
    intro i k a hi hk ha0 ha
    obtain ⟨q, rfl⟩ : ∃ g, k = g + 1 := ⟨k - 1, by omega⟩
    rw [zCt, if_neg (ltN (by omega))]
    exact ⟨a, rfl, ha0, ha⟩
   | succ n ih2 =>
    intro i k a hi hk ha0 ha
    obtain ⟨q, rfl⟩ : ∃ g, k = g + 1 := ⟨k - 1, by omega⟩
    have hx : t.L[i]? = some t.L[i] := List.getElem?_eq_getElem (by omega)
    have hq : t.L[i] ∈ t.L := List.getElem_mem (by omega)
    obtain ⟨d, d1, d2⟩ := hI _ hq
    rw [zCt, if_pos (ltP (by omega)), hx, zAg, d1, zAg]
    have hmx : 0 ≤ maxI a d ∧ maxI a d + 1 ≤ sz t := by unfold maxI; split <;> omega
    exact ih2 (i + 1) q _ (by omega) (by omega) hmx.1 hmx.2
  obtain ⟨b, b1, b2, b3⟩ := hl t.L.length 0 g 0 (by omega) (by omega) (by omega) (by have := zBf t; omega)
  refine ⟨b + 1, ?_, b3⟩
  rw [zDC, b1, zAg, chk64 (by omega) (by omega)]; rfl
def vl (c : Int) (t : zJC) : Bool := leI 1 c && (leI c 7 && (bl c t.Op && ok t false))
theorem vl_M (c : Int) (t : zJC) (hs : sz t ≤ 400) {fuel : Nat} (hf : mz t ≤ fuel) : zDy fuel c t = some (vl c t) := by
 obtain ⟨c', q, _⟩ := formed_ok (sz t) t (Nat.le_refl _) (by omega) false fuel 1 0 hf (by omega) (by omega) (by omega) (by omega)
 have hB : zBU c t = some (leI 1 c && (leI c 7 && bl c t.Op)) := by
  have hc := catg_le t.Op
  by_cases h0 : c = 0
  ·rw [zBU, h0]; rfl
  ·rw [zFA c t h0]
   by_cases h1 : 1 ≤ c ∧ c ≤ 7
   ·rw [show leI 1 c = true from decide_eq_true h1.1, show leI c 7 = true from decide_eq_true h1.2]; rfl
   ·have : bl c t.Op = false := by
     unfold bl
     rw [decide_eq_false (show ¬ catg t.Op = c by omega), decide_eq_false (show ¬ c = 5 by omega)]; rfl
    rw [this, Bool.and_false, Bool.and_false]
 rw [zDy, hB, zEv, q]
 unfold vl
 cases leI 1 c <;> cases leI c 7 <;> cases bl c t.Op <;> rfl
theorem vl_R (c : Int) (t : zJC) (hs : sz t ≤ 400) {fuel : Nat} (hf : mz t ≤ fuel) : zDq fuel c t = some (vl c t) := by
 obtain ⟨d, d1, d2⟩ := depth_ok (sz t) t (Nat.le_refl _) (by omega) fuel hf
 have hF : zEi fuel t = some (ok t false) := by
  rw [zEi, size_ok (sz t) t (Nat.le_refl _) (by omega) fuel hf, zAg, show leI (sz t : Int) 20000 = true from decide_eq_true (by omega), d1]
  simp only [if_true, zAg]
  rw [show leI d 400 = true from decide_eq_true (by omega), nodes_ok (sz t) t (Nat.le_refl _) (by omega) false fuel hf]; rfl
 rw [zDq, zHh, hF]
 unfold vl
 cases leI 1 c <;> cases leI c 7 <;> cases bl c t.Op <;> rfl
theorem count_ok : ∀ (d : Nat), d ≤ 60 → ∀ (t : zJC) (fuel : Nat), mz t ≤ fuel → ∃ v : Int, zDF fuel t (d : Int) 300 = some v ∧ 1 ≤ v ∧ v ≤ 300 * (d + 1) + 1 ∧ (v ≤ 300 → v = sz t) := by
 intro d
 induction d with
 | zero =>
  intro _ t fuel hf
  have hm := mz_eq t
  have hz := sz_eq t
  obtain ⟨g, rfl⟩ : ∃ g, fuel = g + 2 := ⟨fuel - 2, by omega⟩
  rw [zDF, zCW]
  match hL : t.L with
  | [] =>
   refine ⟨1, rfl, by omega, by omega, fun _ => ?_⟩
   rw [hz, hL]; rfl
  | x :: r =>
   rw [if_pos (ltP (by simp)), List.getElem?_cons_zero, zAg, show eqI ((0 : Nat) : Int) 0 = true from rfl, Bool.or_true]
   exact ⟨301, rfl, by omega, by omega, fun h => by omega⟩
 | succ d ih =>
  intro hd t fuel hf
  have hm := mz_eq t
  have hz := sz_eq t
  obtain ⟨g, rfl⟩ : ∃ g, fuel = g + 1 := ⟨fuel - 1, by omega⟩
  have hl : ∀ (n i k : Nat) (a : Int), i + n = t.L.length → n + 1 ≤ k → 1 ≤ a → a ≤ 300 * (d + 1 + 1) + 1 → ∃ o, zCW (zDF g) t ((d + 1 : Nat) : Int) 300 k a i = some o ∧ (o = .inl 301 ∨ ∃ v : Int, o = .inr v ∧ 1 ≤ v ∧ v ≤ 300 * (d + 1 + 1) + 1 ∧ (v ≤ 300 → v = a + (((t.L.drop i).map sz).sum : Nat))) := by
   intro n
   induction n with
   | zero =>
    intro i k a hi hk ha0 ha
    obtain ⟨q, rfl⟩ : ∃ g, k = g + 1 := ⟨k - 1, by omega⟩
    rw [zCW, if_neg (ltN (by omega)), List.drop_eq_nil_of_le (by omega)]
    exact ⟨_, rfl, .inr ⟨a, rfl, ha0, ha, fun _ => by simp⟩⟩
   | succ n ih2 =>
    intro i k a hi hk ha0 ha
    obtain ⟨q, rfl⟩ : ∃ g, k = g + 1 := ⟨k - 1, by omega⟩
    have hx : t.L[i]? = some t.L[i] := List.getElem?_eq_getElem (by omega)
    have hd' : t.L.drop i = t.L[i] :: t.L.drop (i + 1) := List.drop_eq_getElem_cons (by omega)
    have hq : t.L[i] ∈ t.L := List.getElem_mem (by omega)
    rw [zCW, if_pos (ltP (by omega)), hx, hd', List.map_cons, List.sum_cons]
    generalize t.L[i] = x at hq
    rw [zAg, show eqI ((d + 1 : Nat) : Int) 0 = false from decide_eq_false (by omega), Bool.or_false]
    by_cases h : 300 < a
    ·rw [if_pos (show ltI 300 a = true from decide_eq_true h)]
     exact ⟨_, rfl, .inl rfl⟩
    ·rw [if_neg (show ¬ ltI 300 a = true from fun h' => h (ltT h')), chk64 (by omega) (by omega), zAg, show ((d + 1 : Nat) : Int) - 1 = (d : Int) by omega]
     have hmx := mz_mem hq
     obtain ⟨v, v1, v2, v3, v4⟩ := ih (by omega) x g (by omega)
     rw [v1, zAg, chk64 (by omega) (by omega), zAg]
     obtain ⟨o, o1, o2⟩ := ih2 (i + 1) q (a + v) (by omega) (by omega) (by omega) (by omega)
     refine ⟨o, o1, ?_⟩
     rcases o2 with h | ⟨u, u1, u2, u3, u4⟩
     ·exact .inl h
     ·refine .inr ⟨u, u1, u2, u3, fun h5 => ?_⟩
      have h6 := u4 h5
      have h7 := v4 (by omega)
      omega
  obtain ⟨o, o1, o2⟩ := hl t.L.length 0 g 1 (by omega) (by omega) (by omega) (by omega)
  rw [zDF, o1]
  rcases o2 with rfl | ⟨v, rfl, u2, u3, u4⟩
  ·exact ⟨301, rfl, by omega, by omega, fun h => by omega⟩
  ·refine ⟨v, rfl, u2, by omega, fun h => ?_⟩
   rw [u4 h, List.drop_zero, hz]; omega
theorem great1 (t : zJC) {fuel : Nat} (hf : mz t ≤ fuel) : ∃ b, zEG fuel t = some b ∧ (b = false → sz t ≤ 300 ∧ t.S.length ≤ 20000) := by
 obtain ⟨v, v1, v2, v3, v4⟩ := count_ok 60 (by omega) t fuel hf
 rw [zEG, show (60 : Int) = ((60 : Nat) : Int) from rfl, v1, zAg]
 by_cases h : 300 < v
 ·rw [if_pos (show ltI 300 v = true from decide_eq_true h)]
  exact ⟨true, rfl, fun h => by cases h⟩
 ·rw [if_neg (show ¬ ltI 300 v = true from fun h' => h (ltT h'))]
  refine ⟨_, rfl, fun e => ?_⟩
  have h1 := of_decide_eq_false e
  have h2 := v4 (by omega)
  omega
theorem greats (l : List zJC) {fuel : Nat} (hf : ∀ x ∈ l, mz x ≤ fuel) : ∀ (n i k : Nat), i + n = l.length → n + 1 ≤ k → ∃ o, zAo fuel l k i = some o ∧ ((∃ j : Nat, o = .inl (j : Int)) ∨ (o = .inr () ∧ ∀ x ∈ l.drop i, sz x ≤ 300 ∧ x.S.length ≤ 20000)) := by
 intro n
 induction n with
 | zero =>
  intro i k hi hk
  obtain ⟨g, rfl⟩ : ∃ g, k = g + 1 := ⟨k - 1, by omega⟩
  rw [zAo, if_neg (ltN (by omega)), List.drop_eq_nil_of_le (by omega)]
  exact ⟨_, rfl, .inr ⟨rfl, fun x hx => by cases hx⟩⟩
 | succ n ih =>
  intro i k hi hk
  obtain ⟨g, rfl⟩ : ∃ g, k = g + 1 := ⟨k - 1, by omega⟩
  have hx : l[i]? = some l[i] := List.getElem?_eq_getElem (by omega)
  have hd : l.drop i = l[i] :: l.drop (i + 1) := List.drop_eq_getElem_cons (by omega)
  have hq : l[i] ∈ l := List.getElem_mem (by omega)
  rw [zAo, if_pos (ltP (by omega)), hx, hd]
  generalize l[i] = x at hq
  obtain ⟨b, b1, b2⟩ := great1 x (hf x hq)
  rw [zAg, b1, zAg]
  cases b
  ·obtain ⟨o, o1, o2⟩ := ih (i + 1) g (by omega) (by omega)
   refine ⟨o, o1, ?_⟩
   rcases o2 with h | ⟨h, h2⟩
   ·exact .inl h
   ·refine .inr ⟨h, fun y hy => ?_⟩
    rcases List.mem_cons.1 hy with rfl | hy
    ·exact b2 rfl
    ·exact h2 y hy
  ·exact ⟨_, rfl, .inl ⟨i, rfl⟩⟩
theorem great_M (l : List zJC) {fuel : Nat} (hf : ∀ x ∈ l, mz x ≤ fuel) (hl : l.length + 1 ≤ fuel) : ∃ b, zE3 fuel l = some b ∧ (b = false → (l.length ≤ 300 ∨ 1000 < l.length) ∧ l.length ≤ 1100 ∧ ∀ x ∈ l, sz x ≤ 300 ∧ x.S.length ≤ 20000) := by
 obtain ⟨o, o1, o2⟩ := greats l hf l.length 0 fuel (by omega) hl
 rw [List.drop_zero] at o2
 have hC : ∃ b, zA8 fuel l = some b ∧ (b = false → ∀ x ∈ l, sz x ≤ 300 ∧ x.S.length ≤ 20000) := by
  rw [zA8, zBy, o1]
  rcases o2 with ⟨j, rfl⟩ | ⟨rfl, h⟩
  ·exact ⟨_, rfl, fun e => by have := of_decide_eq_false e; omega⟩
  ·exact ⟨_, rfl, fun _ => h⟩
 obtain ⟨b, b1, b2⟩ := hC
 rw [zE3, b1]
 by_cases h1 : 300 < l.length
 ·rw [if_pos (show ltI 300 (l.length : Int) = true from decide_eq_true (by omega))]
  by_cases h2 : l.length ≤ 1000
  ·rw [if_pos (show leI (l.length : Int) 1000 = true from decide_eq_true (by omega))]
   exact ⟨true, rfl, fun h => by cases h⟩
  ·rw [if_neg (show ¬ leI (l.length : Int) 1000 = true from fun h' => h2 (by have := leT h'; omega))]
   by_cases h3 : 1100 < l.length
   ·rw [if_pos (show ltI 1100 (l.length : Int) = true from decide_eq_true (by omega))]
    exact ⟨true, rfl, fun h => by cases h⟩
   ·rw [if_neg (show ¬ ltI 1100 (l.length : Int) = true from fun h' => h3 (by have := ltT h'; omega))]
    exact ⟨b, rfl, fun h => ⟨.inr (by omega), by omega, b2 h⟩⟩
 ·rw [if_neg (show ¬ ltI 300 (l.length : Int) = true from fun h' => h1 (by have := ltT h'; omega)), if_neg (show ¬ ltI 1100 (l.length : Int) = true from fun h' => h1 (by have := ltT h'; omega))]
  exact ⟨b, rfl, fun h => ⟨.inl (by omega), by omega, b2 h⟩⟩
theorem wb_M {c : UInt8} {b : List UInt8} (h : b.length + 1 ≤ 140737488355328) : zA0 c b = some (b ++ [c]) := by
 simp only [zA0, zCD, zAg, app1 (x := b) (y := [c]) h]
theorem ws_M {s b : List UInt8} (h : b.length + s.length ≤ 140737488355328) : zBA s b = some ((s.length : Int), b ++ s) := by
 simp only [zBA, zCD, zAg, app1 (x := b) (y := s) h]
def okc (c : UInt8) : Bool := c == 10 || (decide (32 ≤ c.toNat) && decide (c.toNat ≤ 126))
def esc (c : UInt8) : List UInt8 := if c = 10 then [92, 110] else if c = 34 ∨ c = 92 then [92, c] else [c]
def qs (s : List UInt8) : List UInt8 := s.flatMap esc
theorem eq8 (c : UInt8) (n : Nat) (d : UInt8) (hd : d.toNat = n) : eqI (c.toNat : Int) (n : Int) = decide (c = d) := by
 unfold eqI
 rw [decide_eq_decide]
 constructor
 ·intro h; apply UInt8.toNat_inj.1; omega
 ·rintro rfl; omega
theorem e10 (c : UInt8) : eqI (c.toNat : Int) 10 = decide (c = 10) := eq8 c 10 10 rfl
theorem e34 (c : UInt8) : eqI (c.toNat : Int) 34 = decide (c = 34) := eq8 c 34 34 rfl
theorem e92 (c : UInt8) : eqI (c.toNat : Int) 92 = decide (c = 92) := eq8 c 92 92 rfl
theorem vis_M (c : UInt8) : zEF c = some (decide (32 ≤ c.toNat) && decide (c.toNat ≤ 126)) := by
 unfold zEF leI
 congr 2
 ·exact decide_eq_decide.2 (by omega)
 ·exact decide_eq_decide.2 (by omega)
theorem esc_len (c : UInt8) : (esc c).length ≤ 2 := by unfold esc; split <;> (try split) <;> simp
theorem qs_len (s : List UInt8) : (qs s).length ≤ 2 * s.length := by
 induction s with
 | nil => simp [qs]
 | cons c s ih =>
  have := esc_len c
  simp only [qs, List.flatMap_cons, List.length_append, List.length_cons] at ih ⊢
  omega
theorem qs_cons (c : UInt8) (s : List UInt8) : qs (c :: s) = esc c ++ qs s := by simp [qs]
theorem Quote_loop (s : List UInt8) (hs : s.length ≤ 20000) : ∀ (n i k : Nat) (b : List UInt8), i + n = s.length → n + 1 ≤ k → b.length + 2 * n ≤ 1000000 →
  zCL s k b i = some (if (s.drop i).all okc then .inr (b ++ qs (s.drop i)) else .inl ([], 3)) := by
 intro n
 induction n with
 | zero =>
  intro i k b hi hk hb
  obtain ⟨g, rfl⟩ : ∃ g, k = g + 1 := ⟨k - 1, by omega⟩
  rw [zCL, if_neg (by simp [ltI]; omega), List.drop_eq_nil_of_le (by omega)]
  simp [qs]
 | succ n ih =>
  intro i k b hi hk hb
  obtain ⟨g, rfl⟩ : ∃ g, k = g + 1 := ⟨k - 1, by omega⟩
  have hx : s[i]? = some s[i] := List.getElem?_eq_getElem (by omega)
  rw [zCL, if_pos (by simp [ltI]; omega), hx, List.drop_eq_getElem_cons (by omega), List.all_cons, qs_cons]
  generalize s[i] = c at hx
  simp only [zAg, e10, e34, e92, vis_M]
  by_cases c10 : c = 10
  ·subst c10
   have ho : okc 10 = true := rfl
   rw [decide_eq_true rfl, if_pos rfl, ws_M (by simp; omega)]
   simp only [zAg, ho, Bool.true_and]
   rw [ih (i + 1) g _ (by omega) (by omega) (by simp; omega)]
   have he : esc 10 = [92, 110] := rfl
   rw [he, List.append_assoc]
  ·rw [decide_eq_false c10, if_neg (by simp)]
   cases hv : (decide (32 ≤ c.toNat) && decide (c.toNat ≤ 126))
   ·have ho : okc c = false := by unfold okc; rw [hv]; simpa using c10
    rw [ho]; rfl
   ·have ho : okc c = true := by unfold okc; rw [hv]; simp
    simp only [Bool.not_true, Bool.false_eq_true, if_false, ho, Bool.true_and]
    by_cases c2 : c = 34 ∨ c = 92
    ·have he : esc c = [92, c] := by unfold esc; rw [if_neg c10, if_pos c2]
     rw [if_pos (by rcases c2 with h | h <;> simp [h]), wb_M (by omega)]
     simp only [zAg]
     rw [wb_M (by simp; omega)]
     simp only [zAg]
     rw [ih (i + 1) g _ (by omega) (by omega) (by simp; omega), he]
     simp
    ·have he : esc c = [c] := by unfold esc; rw [if_neg c10, if_neg c2]
     rw [if_neg (by simpa using c2), wb_M (by omega)]
     simp only [zAg]
     rw [ih (i + 1) g _ (by omega) (by omega) (by simp; omega), he]
     simp
theorem Quote_M {s : List UInt8} {fuel : Nat} (hs : s.length ≤ 16384) (hf : s.length + 1 ≤ fuel) : zER fuel s = some (if s.all okc then (34 :: (qs s ++ [34]), 0) else ([], 3)) := by
 have hl := qs_len s
 rw [zER, if_neg (by simp [ltI]; omega), wb_M (by simp)]
 simp only [zAg, List.nil_append]
 rw [Quote_loop s (by omega) s.length 0 fuel [34] (by simp) hf (by simp; omega), List.drop_zero]
 cases s.all okc
 ·rfl
 ·simp only [if_true, zAg, Sum.elim_inr]
  rw [wb_M (by simp; omega)]
  simp [zCT]
theorem RQuote_loop (s : List UInt8) (hs : s.length ≤ 20000) : ∀ (n i k : Nat) (b : List UInt8), i + n = s.length → n + 1 ≤ k → b.length + 2 * n ≤ 1000000 → zCA s k b i = some (b ++ qs (s.drop i)) := by
 intro n
 induction n with
 | zero =>
  intro i k b hi hk hb
  obtain ⟨g, rfl⟩ : ∃ g, k = g + 1 := ⟨k - 1, by omega⟩
  rw [zCA, if_neg (show ¬ ltI (i : Int) (s.length : Int) = true from fun h => by have := ltT h; omega), List.drop_eq_nil_of_le (by omega)]
  simp [qs]
 | succ n ih =>
  intro i k b hi hk hb
  obtain ⟨g, rfl⟩ : ∃ g, k = g + 1 := ⟨k - 1, by omega⟩
  have hx : s[i]? = some s[i] := List.getElem?_eq_getElem (by omega)
  have hdc : s.drop i = s[i] :: s.drop (i + 1) := List.drop_eq_getElem_cons (by omega)
  rw [zCA, if_pos (show ltI (i : Int) (s.length : Int) = true from decide_eq_true (by omega)), hx]
  generalize s[i] = c at hx hdc
  rw [hdc, qs_cons]
  simp only [zAg, e10, e34, e92]
  by_cases c34 : c = 34
  ·subst c34
   simp only [decide_true, if_true]
   rw [cat, if_pos (by simp; omega)]
   simp only [zAg]
   rw [ih (i + 1) g _ (by omega) (by omega) (by simp; omega)]
   rw [show esc 34 = [92, 34] from rfl]; simp
  rw [decide_eq_false c34]
  simp only [Bool.false_eq_true, if_false]
  by_cases c92 : c = 92
  ·subst c92
   simp only [decide_true, if_true]
   rw [cat, if_pos (by simp; omega)]
   simp only [zAg]
   rw [ih (i + 1) g _ (by omega) (by omega) (by simp; omega)]
   rw [show esc 92 = [92, 92] from rfl]; simp
  rw [decide_eq_false c92]
  simp only [Bool.false_eq_true, if_false]
  by_cases c10 : c = 10
  ·subst c10
   simp only [decide_true, if_true]
   rw [cat, if_pos (by simp; omega)]
   simp only [zAg]
   rw [ih (i + 1) g _ (by omega) (by omega) (by simp; omega)]
   rw [show esc 10 = [92, 110] from rfl]; simp
  rw [decide_eq_false c10]
  simp only [Bool.false_eq_true, if_false]
  have he : esc c = [c] := by unfold esc; rw [if_neg c10, if_neg (by simp [c34, c92])]
  have hsub : subC s (i : Int) ((i + 1 : Nat) : Int) = some [c] := by
   rw [subC, if_pos ⟨by omega, by omega, by omega⟩]
   have e1 : ((i + 1 : Nat) : Int).toNat - (i : Int).toNat = 1 := by omega
   unfold sub
   rw [e1, Int.toNat_natCast, hdc]
   rfl
  rw [hsub]
  simp only [zAg]
  rw [cat, if_pos (by simp; omega)]
  simp only [zAg]
  rw [ih (i + 1) g _ (by omega) (by omega) (by simp; omega), he]
  simp
theorem RQuote_M (s : List UInt8) (hs : s.length ≤ 20000) {fuel : Nat} (hf : s.length + 1 ≤ fuel) : zEP fuel s = some (34 :: (qs s ++ [34])) := by
 have := qs_len s
 rw [zEP, RQuote_loop s hs s.length 0 fuel [34] (by omega) hf (by simp; omega), List.drop_zero]
 simp only [zAg]
 rw [cat, if_pos (by simp; omega)]
 simp
theorem plB_okc (c : UInt8) : plB c = okc c := by
 have h := zGz (fun c => plB c == okc c) (by kernel_rfl) c
 simpa using h
theorem plS_okc {s : List UInt8} (h : plS s = true) : s.all okc = true ∧ s.length ≤ 16384 := by
 unfold plS at h
 rw [Bool.and_eq_true] at h
 refine ⟨?_, by have := leT h.2; omega⟩
 rw [← show plB = okc from funext plB_okc]; exact h.1
theorem zIf (m : Nat) (hm : m < 10000000000000000) : (Lib.decDigits m).length ≤ 16 := by
 rw [Lib.decDigits_length]
 have h3 : ∀ j u, u < 10 ^ (j + 1) → Lib.nDigits u ≤ j + 1 := by
  intro j
  induction j with
  | zero => intro u hu; rw [Lib.nDigits_small (by simpa using hu)]; omega
  | succ j ihj =>
   intro u hu
   by_cases hu2 : u < 10
   ·rw [Lib.nDigits_small hu2]; omega
   ·have := ihj (u / 10) (by have : 10 ^ (j + 1 + 1) = 10 ^ (j + 1) * 10 := Nat.pow_succ ..; omega)
    rw [Lib.nDigits_big hu2]; omega
 exact h3 15 m (by omega)
theorem digits_M : ∀ (k n : Nat), n < 10 ^ (k + 1) → n < 10000000000000000 → ∀ fuel, k + 2 ≤ fuel → zCk fuel (n : Int) = some (Lib.decDigits n) := by
 intro k
 induction k with
 | zero =>
  intro n h h2 fuel hf
  obtain ⟨g, rfl⟩ : ∃ g, fuel = g + 1 := ⟨fuel - 1, by omega⟩
  rw [zCk, if_neg (show ¬ ltI 9 (n : Int) = true from fun h' => by have := ltT h'; omega), chk64 (by omega) (by omega), zAg, show chk .u8 (48 + (n : Int)) = some (48 + (n : Int)) by rw [chk, if_pos]; exact ⟨by show (0 : Int) ≤ _; omega, by show _ ≤ (255 : Int); omega⟩, zAg, Lib.decDigits, dif_pos (by omega), show (48 + (n : Int)).toNat = 48 + n by omega]
 | succ k ih =>
  intro n h h2 fuel hf
  obtain ⟨g, rfl⟩ : ∃ g, fuel = g + 1 := ⟨fuel - 1, by omega⟩
  rw [zCk]
  by_cases h9 : 9 < n
  ·have e1 : Int.tdiv (n : Int) 10 = ((n / 10 : Nat) : Int) := by rw [Int.tdiv_eq_ediv_of_nonneg (by omega)]; omega
   have e2 : Int.tmod (n : Int) 10 = ((n % 10 : Nat) : Int) := by rw [Int.tmod_eq_emod_of_nonneg (by omega)]; omega
   have hp : 10 ^ (k + 1 + 1) = 10 ^ (k + 1) * 10 := Nat.pow_succ ..
   have p1 : 1 ≤ 10 ^ k := Nat.one_le_pow _ _ (by decide)
   have hp2 : 10 ^ (k + 1) = 10 ^ k * 10 := Nat.pow_succ ..
   rw [if_pos (show ltI 9 (n : Int) = true from decide_eq_true (by omega)), e1, chk64 (by omega) (by omega), zAg, ih (n / 10) (by omega) (by omega) g (by omega), zAg, e2, ih (n % 10) (by omega) (by omega) g (by omega), zAg, cat1 (by have := zIf (n / 10) (by omega); have := zIf (n % 10) (by omega); omega), zAg]
   conv => rhs; rw [Lib.decDigits, dif_neg (by omega)]
   rw [show Lib.decDigits (n % 10) = _ from Lib.decDigits_one (by omega)]
  ·rw [if_neg (show ¬ ltI 9 (n : Int) = true from fun h' => h9 (by have := ltT h'; omega)), chk64 (by omega) (by omega), zAg, show chk .u8 (48 + (n : Int)) = some (48 + (n : Int)) by rw [chk, if_pos]; exact ⟨by show (0 : Int) ≤ _; omega, by show _ ≤ (255 : Int); omega⟩, zAg, Lib.decDigits, dif_pos (by omega), show (48 + (n : Int)).toNat = 48 + n by omega]
def blk (p : List UInt8) : List UInt8 := if p = [40] then [] else [32]
def sep (p x : List UInt8) : List UInt8 := if p = [40] ∨ x = [41] ∨ x = [44] ∨ x = [59] then [] else [32]
def JJ (p : List UInt8) : List (List UInt8) → List UInt8
 | [] => []
 | x :: r => sep p x ++ (x ++ JJ x r)
def zHb (p : List UInt8) : List (List UInt8) → List UInt8
 | [] => p
 | x :: r => zHb x r
theorem JJ_app : ∀ (a b : List (List UInt8)) (p : List UInt8), JJ p (a ++ b) = JJ p a ++ JJ (zHb p a) b
 | [], b, p => rfl
 | x :: r, b, p => by rw [List.cons_append, JJ, JJ, JJ_app r b x, zHb, List.append_assoc, List.append_assoc]
theorem zGD : ∀ (a b : List (List UInt8)) (p : List UInt8), zHb p (a ++ b) = zHb (zHb p a) b
 | [], b, p => rfl
 | x :: r, b, p => by rw [List.cons_append, zHb, zHb, zGD r b x]
def Good (a : List (List UInt8)) (s : List UInt8) : Prop := (∀ p, JJ p a = blk p ++ s) ∧ ∀ p, zHb p a ≠ [40]
def plT (x : List UInt8) : Prop := x ≠ [40] ∧ x ≠ [41] ∧ x ≠ [44] ∧ x ≠ [59]
theorem sep_pl {x : List UInt8} (h : plT x) (p : List UInt8) : sep p x = blk p := by
 unfold sep blk
 obtain ⟨_, h2, h3, h4⟩ := h
 by_cases hp : p = [40]
 ·rw [if_pos (.inl hp), if_pos hp]
 ·rw [if_neg (by rintro (h | h | h | h) <;> contradiction), if_neg hp]
theorem blk_ne {p : List UInt8} (h : p ≠ [40]) : blk p = [32] := by unfold blk; rw [if_neg h]
theorem G1 {x : List UInt8} (h : plT x) : Good [x] x := ⟨fun p => by rw [JJ, sep_pl h, JJ, List.append_nil], fun p => h.1⟩
theorem G2 {a b : List (List UInt8)} {s r : List UInt8} (h1 : Good a s) (h2 : Good b r) : Good (a ++ b) (s ++ 32 :: r) :=
 ⟨fun p => by rw [JJ_app, h1.1, h2.1, blk_ne (h1.2 p)]; simp, fun p => by rw [zGD]; exact h2.2 _⟩
theorem G3 {a : List (List UInt8)} {s : List UInt8} (h1 : Good a s) : Good ([40] :: (a ++ [[41]])) (40 :: (s ++ [41])) :=
 ⟨fun p => by rw [JJ, JJ_app, h1.1, JJ, JJ, show sep p [40] = blk p from by unfold sep blk; simp, show blk [40] = [] from rfl, show ∀ q, sep q [41] = [] from fun q => by unfold sep; simp]; simp, fun p => by rw [zHb, zGD, zHb, zHb]; decide⟩
theorem G4 {a b : List (List UInt8)} {s r : List UInt8} (h1 : Good a s) (h2 : Good b r) : Good (a ++ [44] :: b) (s ++ 44 :: 32 :: r) :=
 ⟨fun p => by rw [JJ_app, h1.1, JJ, h2.1, show blk [44] = [32] from rfl, show ∀ q, sep q [44] = [] from fun q => by unfold sep; simp]; simp, fun p => by rw [zGD, zHb]; exact h2.2 _⟩
theorem G5 : Good [[40], [41]] [40, 41] := ⟨fun p => by rw [JJ, JJ, JJ, show sep p [40] = blk p from by unfold sep blk; simp]; rfl, fun p => by rw [zHb, zHb, zHb]; decide⟩
theorem G6 {x : List UInt8} (hx : plT x) {a b : List (List UInt8)} {s r : List UInt8} (h1 : Good a s) (h2 : Good b r) : Good (a ++ x :: b) (s ++ 32 :: (x ++ 32 :: r)) := G2 h1 (G2 (G1 hx) h2)
theorem text_loop (w : zI9) : ∀ (n i k : Nat) (b : List UInt8), i + n = w.tokens.length → n + 1 ≤ k → b.length + (JJ (zHb [40] (w.tokens.take i)) (w.tokens.drop i)).length ≤ 100000000000 → zBM w k b i = some (b ++ JJ (zHb [40] (w.tokens.take i)) (w.tokens.drop i)) := by
 intro n
 induction n with
 | zero =>
  intro i k b hi hk hb
  obtain ⟨g, rfl⟩ : ∃ g, k = g + 1 := ⟨k - 1, by omega⟩
  rw [zBM, if_neg (ltN (by omega)), List.drop_eq_nil_of_le (by omega), JJ, List.append_nil]
 | succ n ih =>
  intro i k b hi hk hb
  obtain ⟨g, rfl⟩ : ∃ g, k = g + 1 := ⟨k - 1, by omega⟩
  have hx : w.tokens[i]? = some w.tokens[i] := List.getElem?_eq_getElem (by omega)
  have hd : w.tokens.drop i = w.tokens[i] :: w.tokens.drop (i + 1) := List.drop_eq_getElem_cons (by omega)
  have ht : w.tokens.take (i + 1) = w.tokens.take i ++ [w.tokens[i]] := by rw [List.take_add_one, hx]; rfl
  have ih1 := ih (i + 1) g
  rw [ht, zGD] at ih1
  rw [hd, JJ] at hb ⊢
  rw [zBM, if_pos (ltP (by omega)), hx, zAg]
  generalize w.tokens[i] = x at ih1 hb
  simp only [zHb] at ih1
  simp only [List.length_append] at hb
  have hc : (if ltI 0 ((i : Nat) : Int) = true then (idx w.tokens (((i : Nat) : Int) - 1)).bind fun x16 => if (!eqS x16 [40]) = true then if (!eqS x [41]) = true then if (!eqS x [44]) = true then some (!eqS x [59]) else some false else some false else some false else some false : Option Bool) = some (decide (sep (zHb [40] (w.tokens.take i)) x = [32])) := by
   by_cases h0 : 0 < i
   ·have e : ((i : Nat) : Int) - 1 = ((i - 1 : Nat) : Int) := by omega
    have hy : w.tokens[i - 1]? = some w.tokens[i - 1] := List.getElem?_eq_getElem (by omega)
    have hl : zHb [40] (w.tokens.take i) = w.tokens[i - 1] := by
     have : w.tokens.take i = w.tokens.take (i - 1) ++ [w.tokens[i - 1]] := by
      have h1 := List.take_add_one (l := w.tokens) (i := i - 1)
      rw [hy, show i - 1 + 1 = i by omega] at h1
      exact h1
     rw [this, zGD]; rfl
    rw [if_pos (show ltI 0 ((i : Nat) : Int) = true from decide_eq_true (by omega)), e, idxN, hy, zAg, hl]
    generalize w.tokens[i - 1] = y
    unfold sep
    by_cases c1 : y = [40]
    ·simp [c1, eqS]
    by_cases c2 : x = [41]
    ·simp [c1, c2, eqS]
    by_cases c3 : x = [44]
    ·simp [c1, c3, eqS]
    by_cases c4 : x = [59]
    ·simp [c1, c4, eqS]
    simp [c1, c2, c3, c4, eqS]
   ·have : i = 0 := by omega
    subst this
    rw [if_neg (by decide)]
    rfl
  rw [hc, zAg]
  by_cases hs : sep (zHb [40] (w.tokens.take i)) x = [32]
  ·rw [decide_eq_true hs, if_pos rfl, wb_M (by omega), zAg, ws_M (by rw [List.length_append, ← hs]; omega), zAg, ih1 _ (by omega) (by omega) (by rw [List.length_append, List.length_append, ← hs]; omega), hs]
   simp
  ·have hs' : sep (zHb [40] (w.tokens.take i)) x = [] := by
    unfold sep at hs ⊢
    split
    ·rfl
    ·next h => rw [if_neg h] at hs; exact absurd rfl hs
   rw [decide_eq_false hs, if_neg (by simp), ws_M (by omega), zAg, ih1 _ (by omega) (by omega) (by rw [List.length_append]; omega), hs']
   simp
theorem text_M7 {w : zI9} {s : List UInt8} (h : Good w.tokens s) (hs : s.length ≤ 100000000000) {fuel : Nat} (hf : w.tokens.length + 1 ≤ fuel) : zC0 fuel w = some s := by
 have h1 := h.1 [40]
 rw [show blk [40] = [] from rfl, List.nil_append] at h1
 have h2 := text_loop w w.tokens.length 0 fuel [] (by omega) hf (by rw [List.take_zero, List.drop_zero, zHb, h1]; simpa using hs)
 rw [List.take_zero, List.drop_zero, zHb, h1, List.nil_append] at h2
 rw [zC0, h2]; rfl
theorem zHE (n : Int) : zDp n = zAv n := rfl
def Gd (o : Option Int) : Prop := ∃ v, o = some v ∧ 0 ≤ v
theorem gd_ite {c : Prop} {i : Decidable c} {a b : Option Int} (h1 : Gd a) (h2 : Gd b) : Gd (@ite _ c i a b) := by
 by_cases h : c
 ·rw [if_pos h]; exact h1
 ·rw [if_neg h]; exact h2
theorem oper_ex (n : Int) : Gd (zAv n) := by
 unfold zAv
 repeat' split
 all_goals exact ⟨_, rfl, by decide⟩
theorem level_ex (t : zJC) : Gd (zCm t) := by
 obtain ⟨v, h1, h2⟩ := oper_ex t.N
 unfold zCm
 rw [h1]
 repeat' apply gd_ite
 all_goals first | exact ⟨_, rfl, by decide⟩ | exact ⟨_, rfl, h2⟩
def LV (t : zJC) : Int := (zCm t).getD 0
theorem level_M (t : zJC) : zCm t = some (LV t) := by
 obtain ⟨v, h, _⟩ := level_ex t
 unfold LV; rw [h]; rfl
theorem level_0 (t : zJC) : 0 ≤ LV t := by
 obtain ⟨v, h, h0⟩ := level_ex t
 unfold LV; rw [h]; exact h0
theorem level_R (t : zJC) : zE2 t = some (LV t) := by
 rw [← level_M, zE2, zCm]
 by_cases h1 : t.Op = 81
 ·simp only [h1, BB, Int.reduceEq, decide_false, decide_true, Bool.false_eq_true, if_false, if_true]
 by_cases h2 : t.Op = 82
 ·simp only [h2, BB, Int.reduceEq, decide_false, decide_true, Bool.false_eq_true, if_false, if_true]
 by_cases h3 : t.Op = 87
 ·simp only [h3, BB, Int.reduceEq, decide_false, decide_true, Bool.false_eq_true, if_false, if_true]
 by_cases h4 : t.Op = 88
 ·simp only [h4, BB, Int.reduceEq, decide_false, decide_true, Bool.false_eq_true, if_false, if_true]
 rw [show eqI t.Op 81 = false from decide_eq_false h1, show eqI t.Op 82 = false from decide_eq_false h2, show eqI t.Op 87 = false from decide_eq_false h3, show eqI t.Op 88 = false from decide_eq_false h4]
 simp only [Bool.false_eq_true, if_false, zHE]
def PT (t : zJC) : List (List UInt8) := match zAH (mz t) t ⟨[]⟩ with | some w => w.tokens | none => []
def QT (t : zJC) : List UInt8 := (zAN (mz t) t).getD []
structure Pr (t : zJC) : Prop where
 g : Good (PT t) (QT t)
 l1 : (PT t).length + 5 ≤ 40 * sz t
 l2 : (QT t).length + 5 ≤ 40000 * sz t
 w : ∀ (l : List (List UInt8)) (f : Nat), l.length + 40 * sz t ≤ 1000005 → mz t ≤ f → zAH f t ⟨l⟩ = some ⟨l ++ PT t⟩
 r : ∀ f : Nat, mz t ≤ f → zAN f t = some (QT t)
theorem mkPr (t : zJC) (p : List (List UInt8)) (q : List UInt8) (hs : sz t ≤ 400) (g : Good p q) (h1 : p.length + 5 ≤ 40 * sz t) (h2 : q.length + 5 ≤ 40000 * sz t)
  (hw : ∀ (l : List (List UInt8)) (f : Nat), l.length + 40 * sz t ≤ 1000005 → mz t ≤ f → zAH f t ⟨l⟩ = some ⟨l ++ p⟩)
  (hr : ∀ f : Nat, mz t ≤ f → zAN f t = some q) : Pr t := by
 have e1 : PT t = p := by unfold PT; rw [hw [] (mz t) (by rw [List.length_nil]; omega) (Nat.le_refl _)]; rfl
 have e2 : QT t = q := by unfold QT; rw [hr (mz t) (Nat.le_refl _)]; rfl
 exact ⟨by rw [e1, e2]; exact g, by rw [e1]; exact h1, by rw [e2]; exact h2, by rw [e1]; exact hw, by rw [e2]; exact hr⟩
theorem put_M (l : List (List UInt8)) (w : List (List UInt8)) (h : w.length + l.length ≤ 2000000) : zAD l ⟨w⟩ = some ⟨w ++ l⟩ := by
 rw [zAD, app_some (by decide) (by show (w.length + l.length) * 16 ≤ _; omega)]; rfl
def PP (t : zJC) (lv : Int) : List (List UInt8) := if leI lv (LV t) = true then PT t else [40] :: (PT t ++ [[41]])
def QP (t : zJC) (lv : Int) : List UInt8 := if leI lv (LV t) = true then QT t else 40 :: (QT t ++ [41])
theorem PP0 (t : zJC) : PP t 0 = PT t := by unfold PP; rw [if_pos (show leI 0 (LV t) = true from decide_eq_true (level_0 t))]
theorem QP0 (t : zJC) : QP t 0 = QT t := by unfold QP; rw [if_pos (show leI 0 (LV t) = true from decide_eq_true (level_0 t))]
structure Pc (t : zJC) (lv : Int) : Prop where
 g : Good (PP t lv) (QP t lv)
 l1 : (PP t lv).length + 3 ≤ 40 * sz t
 l2 : (QP t lv).length + 3 ≤ 40000 * sz t
 w : ∀ (l : List (List UInt8)) (f : Nat), l.length + 40 * sz t ≤ 1000000 → mz t + 5 ≤ f → zAK f t lv ⟨l⟩ = some ⟨l ++ PP t lv⟩
 r : ∀ f : Nat, mz t + 5 ≤ f → zA2 f t lv = some (QP t lv)
theorem Pr.pc {t : zJC} (h : Pr t) (hs : sz t ≤ 400) (lv : Int) : Pc t lv := by
 have h1 := h.l1; have h2 := h.l2
 by_cases hl : leI lv (LV t) = true
 ·have hn : ltI (LV t) lv = false := decide_eq_false (by have := leT hl; omega)
  refine ⟨?_, ?_, ?_, fun l f hl1 hf => ?_, fun f hf => ?_⟩
  ·unfold PP QP; rw [if_pos hl, if_pos hl]; exact h.g
  ·unfold PP; rw [if_pos hl]; omega
  ·unfold QP; rw [if_pos hl]; omega
  ·obtain ⟨g, rfl⟩ : ∃ g, f = g + 1 := ⟨f - 1, by omega⟩
   unfold PP
   rw [if_pos hl, zAK, level_M, zAg, if_pos hl, h.w l g (by omega) (by omega)]; rfl
  ·obtain ⟨g, rfl⟩ : ∃ g, f = g + 1 := ⟨f - 1, by omega⟩
   unfold QP
   rw [if_pos hl, zA2, level_R, zAg, hn, h.r g (by omega)]; rfl
 ·have hn : ltI (LV t) lv = true := decide_eq_true (by have : ¬ lv ≤ LV t := fun h' => hl (decide_eq_true h'); omega)
  refine ⟨?_, ?_, ?_, fun l f hl1 hf => ?_, fun f hf => ?_⟩
  ·unfold PP QP; rw [if_neg hl, if_neg hl]; exact G3 h.g
  ·unfold PP; rw [if_neg hl]; simp; omega
  ·unfold QP; rw [if_neg hl]; simp; omega
  ·obtain ⟨g, rfl⟩ : ∃ g, f = g + 1 := ⟨f - 1, by omega⟩
   unfold PP
   rw [if_neg hl, zAK, level_M, zAg, if_neg hl, put_M [[40]] l (by simp; omega), zAg, h.w (l ++ [[40]]) g (by simp; omega) (by omega), zAg, put_M [[41]] _ (by simp; omega), zAg]
   simp
  ·obtain ⟨g, rfl⟩ : ∃ g, f = g + 1 := ⟨f - 1, by omega⟩
   unfold QP
   rw [if_neg hl, zA2, level_R, zAg, hn, if_pos rfl, h.r g (by omega), zAg, cat1 (by simp; omega), zAg, cat1 (by simp; omega), zAg]
   simp
def lt (b : List UInt8) (lv : Int) (l : List zJC) : List (List UInt8) := (l.map (fun x => (if b = [] then [] else [b]) ++ PP x lv)).flatten
def ls (b : List UInt8) (lv : Int) (l : List zJC) : List (List UInt8) := match l with | [] => [] | x :: r => PP x lv ++ lt b lv r
def qt (b : List UInt8) (lv : Int) (l : List zJC) : List UInt8 := (l.map (fun x => b ++ QP x lv)).flatten
def qs' (b : List UInt8) (lv : Int) (l : List zJC) : List UInt8 := match l with | [] => [] | x :: r => QP x lv ++ qt b lv r
def qw (l : List zJC) : List UInt8 := (l.map (fun x => QT x ++ [32])).flatten
theorem len_lt (b : List UInt8) (lv : Int) (l : List zJC) (h : ∀ x ∈ l, Pc x lv) : (lt b lv l).length ≤ 40 * (l.map sz).sum := by
 unfold lt
 induction l with
 | nil => simp
 | cons x r ih =>
  have h1 := (h x (by simp)).l1
  have h2 := ih (fun y hy => h y (by simp [hy]))
  rw [List.map_cons, List.flatten_cons, List.map_cons, List.sum_cons, List.length_append, List.length_append]
  have h3 : (if b = [] then ([] : List (List UInt8)) else [b]).length ≤ 1 := by split <;> simp
  omega
theorem len_ls (b : List UInt8) (lv : Int) (l : List zJC) (h : ∀ x ∈ l, Pc x lv) : (ls b lv l).length ≤ 40 * (l.map sz).sum := by
 match l with
 | [] => simp [ls]
 | x :: r =>
  have h1 := (h x (by simp)).l1
  have h2 := len_lt b lv r (fun y hy => h y (by simp [hy]))
  rw [ls, List.map_cons, List.sum_cons, List.length_append]; omega
theorem len_qt (b : List UInt8) (hb : b.length ≤ 3) (lv : Int) (l : List zJC) (h : ∀ x ∈ l, Pc x lv) : (qt b lv l).length ≤ 40000 * (l.map sz).sum := by
 unfold qt
 induction l with
 | nil => simp
 | cons x r ih =>
  have h1 := (h x (by simp)).l2
  have h2 := ih (fun y hy => h y (by simp [hy]))
  rw [List.map_cons, List.flatten_cons, List.map_cons, List.sum_cons, List.length_append, List.length_append]
  omega
theorem len_qs (b : List UInt8) (hb : b.length ≤ 3) (lv : Int) (l : List zJC) (h : ∀ x ∈ l, Pc x lv) : (qs' b lv l).length ≤ 40000 * (l.map sz).sum := by
 match l with
 | [] => simp [qs']
 | x :: r =>
  have h1 := (h x (by simp)).l2
  have h2 := len_qt b hb lv r (fun y hy => h y (by simp [hy]))
  rw [qs', List.map_cons, List.sum_cons, List.length_append]; omega
theorem len_qw (l : List zJC) (h : ∀ x ∈ l, Pr x) : (qw l).length ≤ 40000 * (l.map sz).sum := by
 unfold qw
 induction l with
 | nil => simp
 | cons x r ih =>
  have h1 := (h x (by simp)).l2
  have h2 := ih (fun y hy => h y (by simp [hy]))
  rw [List.map_cons, List.flatten_cons, List.map_cons, List.sum_cons, List.length_append, List.length_append, List.length_singleton]
  omega
theorem list_loop (F : zJC → Int → zI9 → Option zI9) (l : List zJC) (lv : Int) (b : List UInt8) (h : ∀ x ∈ l, Pc x lv)
  (hF : ∀ x ∈ l, ∀ w : List (List UInt8), w.length + 40 * sz x ≤ 1000000 → F x lv ⟨w⟩ = some ⟨w ++ PP x lv⟩) :
  ∀ (n i k : Nat) (w : List (List UInt8)), i + n = l.length → n + 1 ≤ k → w.length + 40 * ((l.drop i).map sz).sum + 1 ≤ 1000000 → 1 ≤ i → zA5 F l lv b k w i = some (w ++ lt b lv (l.drop i)) := by
 intro n
 induction n with
 | zero =>
  intro i k w hi hk hw h1
  obtain ⟨g, rfl⟩ : ∃ g, k = g + 1 := ⟨k - 1, by omega⟩
  rw [zA5, if_neg (ltN (by omega)), List.drop_eq_nil_of_le (by omega)]
  simp [lt]
 | succ n ih =>
  intro i k w hi hk hw hi1
  obtain ⟨g, rfl⟩ : ∃ g, k = g + 1 := ⟨k - 1, by omega⟩
  have hx : l[i]? = some l[i] := List.getElem?_eq_getElem (by omega)
  have hd : l.drop i = l[i] :: l.drop (i + 1) := List.drop_eq_getElem_cons (by omega)
  have hm : l[i] ∈ l := List.getElem_mem (by omega)
  rw [zA5, if_pos (ltP (by omega)), hx, zAg]
  rw [hd, List.map_cons, List.sum_cons] at hw
  rw [hd, show ltI 0 ((i : Nat) : Int) = true from decide_eq_true (by omega), Bool.true_and]
  generalize l[i] = x at hm hw
  have hp := (h x hm).l1
  have e : lt b lv (x :: l.drop (i + 1)) = (if b = [] then [] else [b]) ++ (PP x lv ++ lt b lv (l.drop (i + 1))) := by simp [lt]
  rw [e]
  by_cases hb : b = []
  ·rw [show eqS b [] = true from decide_eq_true hb, if_neg (by simp), hF x hm w (by omega), zAg, ih (i + 1) g _ (by omega) (by omega) (by rw [List.length_append]; omega) (by omega), if_pos hb]
   simp
  ·rw [show eqS b [] = false from decide_eq_false hb, if_pos (show (!false) = true from rfl), put_M _ _ (by simp; omega), zAg, hF x hm _ (by simp; omega), zAg, ih (i + 1) g _ (by omega) (by omega) (by rw [List.length_append, List.length_append, List.length_singleton]; omega) (by omega), if_neg hb]
   simp
theorem list_M (l : List zJC) (lv : Int) (b : List UInt8) (h : ∀ x ∈ l, Pc x lv) (w : List (List UInt8)) (f : Nat) (hf : l.length + 3 ≤ f) (hm : ∀ x ∈ l, mz x + 10 ≤ f) (hw : w.length + 40 * (l.map sz).sum + 5 ≤ 1000000) : zAl f l lv b ⟨w⟩ = some ⟨w ++ ls b lv l⟩ := by
 obtain ⟨g, rfl⟩ : ∃ g, f = g + 2 := ⟨f - 2, by omega⟩
 rw [zAl]
 match l, h, hf, hm, hw with
 | [], h, hf, hm, hw =>
  rw [zA5, if_neg (ltN (by simp))]
  simp [ls]
 | x :: r, h, hf, hm, hw =>
  have hF : ∀ y ∈ x :: r, ∀ w : List (List UInt8), w.length + 40 * sz y ≤ 1000000 → zAK (g + 1) y lv ⟨w⟩ = some ⟨w ++ PP y lv⟩ := fun y hy w hw => (h y hy).w w (g + 1) hw (by have := hm y hy; omega)
  have hp := (h x (by simp)).l1
  rw [List.map_cons, List.sum_cons] at hw
  rw [List.length_cons] at hf
  rw [zA5, if_pos (ltP (by simp)), List.getElem?_cons_zero, zAg, show ltI 0 ((0 : Nat) : Int) = false from rfl, Bool.false_and, if_neg (by simp), hF x (by simp) w (by omega), zAg,
   list_loop _ (x :: r) lv b h hF r.length 1 g _ (by simp; omega) (by omega) (by rw [List.length_append, List.drop_one, List.tail_cons]; show _ + _ + _ ≤ _; omega) (by omega), zAg, List.drop_one, List.tail_cons, ls]
  simp
theorem rlist_loop (F : zJC → Int → Option (List UInt8)) (l : List zJC) (lv : Int) (hl : l.length ≤ 1000) (hF : ∀ x ∈ l, F x lv = some (QP x lv)) :
  ∀ (n i k : Nat) (o : List (List UInt8)), i + n = l.length → n + 1 ≤ k → o.length + n ≤ 1000 → zC6 F l lv k o i = some (o ++ (l.drop i).map (fun x => QP x lv)) := by
 intro n
 induction n with
 | zero =>
  intro i k o hi hk ho
  obtain ⟨g, rfl⟩ : ∃ g, k = g + 1 := ⟨k - 1, by omega⟩
  rw [zC6, if_neg (ltN (by omega)), List.drop_eq_nil_of_le (by omega)]
  simp
 | succ n ih =>
  intro i k o hi hk ho
  obtain ⟨g, rfl⟩ : ∃ g, k = g + 1 := ⟨k - 1, by omega⟩
  have hx : l[i]? = some l[i] := List.getElem?_eq_getElem (by omega)
  have hd : l.drop i = l[i] :: l.drop (i + 1) := List.drop_eq_getElem_cons (by omega)
  have hm : l[i] ∈ l := List.getElem_mem (by omega)
  rw [zC6, if_pos (ltP (by omega)), hx, zAg, hd]
  generalize l[i] = x at hm
  rw [hF x hm, zAg, app_some (by decide) (by simp; omega), zAg, ih (i + 1) g _ (by omega) (by omega) (by simp; omega)]
  simp
theorem joined_loop (l : List (List UInt8)) (b : List UInt8) : ∀ (n i k : Nat) (s : List UInt8), i + n = l.length → n + 1 ≤ k → 1 ≤ i → s.length + (Lib.joinTail b (l.drop i)).length ≤ 1000000000000 → zCB l b k s i = some (s ++ Lib.joinTail b (l.drop i)) := by
 intro n
 induction n with
 | zero =>
  intro i k s hi hk h1 hs
  obtain ⟨g, rfl⟩ : ∃ g, k = g + 1 := ⟨k - 1, by omega⟩
  rw [zCB, if_neg (ltN (by omega)), List.drop_eq_nil_of_le (by omega)]
  simp [Lib.joinTail]
 | succ n ih =>
  intro i k s hi hk h1 hs
  obtain ⟨g, rfl⟩ : ∃ g, k = g + 1 := ⟨k - 1, by omega⟩
  have hx : l[i]? = some l[i] := List.getElem?_eq_getElem (by omega)
  have hd : l.drop i = l[i] :: l.drop (i + 1) := List.drop_eq_getElem_cons (by omega)
  rw [zCB, if_pos (ltP (by omega)), if_pos (show ltI 0 ((i : Nat) : Int) = true from decide_eq_true (by omega)), hx]
  rw [hd] at hs ⊢
  generalize l[i] = x at hs
  have e : Lib.joinTail b (x :: l.drop (i + 1)) = b ++ x ++ Lib.joinTail b (l.drop (i + 1)) := by simp [Lib.joinTail]
  rw [e] at hs ⊢
  simp only [List.length_append] at hs
  rw [cat1 (by omega), zAg, zAg, cat1 (by rw [List.length_append]; omega), zAg, ih (i + 1) g _ (by omega) (by omega) (by omega) (by simp only [List.length_append]; omega)]
  simp
theorem zH8 (l : List (List UInt8)) (b : List UInt8) (hs : (Lib.join l b).length ≤ 1000000000000) {f : Nat} (hf : l.length + 2 ≤ f) : zCi f l b = some (Lib.join l b) := by
 obtain ⟨g, rfl⟩ : ∃ g, f = g + 1 := ⟨f - 1, by omega⟩
 rw [zCi]
 match l, hs, hf with
 | [], hs, hf => rfl
 | x :: r, hs, hf =>
  rw [Lib.join_cons] at hs ⊢
  rw [List.length_append] at hs
  rw [List.length_cons] at hf
  rw [zCB, if_pos (ltP (by simp)), if_neg (by decide), List.getElem?_cons_zero, zAg, cat1 (by simp; omega), zAg, joined_loop (x :: r) b r.length 1 g _ (by simp; omega) (by omega) (by omega) (by rw [List.drop_one, List.tail_cons, List.nil_append]; exact hs), zAg, List.drop_one, List.tail_cons, List.nil_append]
theorem rlist_M (l : List zJC) (lv : Int) (b : List UInt8) (hb : b.length ≤ 3) (h : ∀ x ∈ l, Pc x lv) (hs : (l.map sz).sum ≤ 400) (f : Nat) (hf : l.length + 5 ≤ f) (hm : ∀ x ∈ l, mz x + 10 ≤ f) : zCw f l lv b = some (qs' b lv l) := by
 have hl := sum_len sz zBf l
 have hq := len_qs b hb lv l h
 obtain ⟨g, rfl⟩ : ∃ g, f = g + 1 := ⟨f - 1, by omega⟩
 have e : Lib.join (l.map (fun x => QP x lv)) b = qs' b lv l := by
  match l with
  | [] => rfl
  | x :: r => rw [List.map_cons, Lib.join_cons, qs', Lib.joinTail, qt, List.map_map]; rfl
 rw [zCw, rlist_loop (zA2 g) l lv (by omega) (fun x hx => (h x hx).r g (by have := hm x hx; omega)) l.length 0 g [] (by omega) (by omega) (by simp; omega), zAg, List.drop_zero, List.nil_append, zH8 _ _ (by rw [e]; omega) (by rw [List.length_map]; omega), e]; rfl
theorem spaced_loop (F : zJC → Option (List UInt8)) (l : List zJC) (hF : ∀ x ∈ l, F x = some (QT x)) :
  ∀ (n i k : Nat) (s : List UInt8), i + n = l.length → n + 1 ≤ k → s.length + (qw (l.drop i)).length ≤ 1000000000000 → zCa F l k s i = some (s ++ qw (l.drop i)) := by
 intro n
 induction n with
 | zero =>
  intro i k s hi hk hs
  obtain ⟨g, rfl⟩ : ∃ g, k = g + 1 := ⟨k - 1, by omega⟩
  rw [zCa, if_neg (ltN (by omega)), List.drop_eq_nil_of_le (by omega)]
  simp [qw]
 | succ n ih =>
  intro i k s hi hk hs
  obtain ⟨g, rfl⟩ : ∃ g, k = g + 1 := ⟨k - 1, by omega⟩
  have hx : l[i]? = some l[i] := List.getElem?_eq_getElem (by omega)
  have hd : l.drop i = l[i] :: l.drop (i + 1) := List.drop_eq_getElem_cons (by omega)
  have hm : l[i] ∈ l := List.getElem_mem (by omega)
  rw [zCa, if_pos (ltP (by omega)), hx, zAg]
  rw [hd] at hs ⊢
  generalize l[i] = x at hm hs
  have e : qw (x :: l.drop (i + 1)) = QT x ++ ([32] ++ qw (l.drop (i + 1))) := by simp [qw]
  rw [e] at hs ⊢
  simp only [List.length_append] at hs
  rw [hF x hm, zAg, cat1 (by omega), zAg, cat1 (by rw [List.length_append]; omega), zAg, ih (i + 1) g _ (by omega) (by omega) (by simp only [List.length_append]; omega)]
  simp
theorem spaced_M (l : List zJC) (h : ∀ x ∈ l, Pr x) (hs : (l.map sz).sum ≤ 400) (f : Nat) (hf : l.length + 5 ≤ f) (hm : ∀ x ∈ l, mz x + 10 ≤ f) : zC3 f l = some (qw l) := by
 have hq := len_qw l h
 obtain ⟨g, rfl⟩ : ∃ g, f = g + 1 := ⟨f - 1, by omega⟩
 rw [zC3, spaced_loop (zAN g) l (fun x hx => (h x hx).r g (by have := hm x hx; omega)) l.length 0 g [] (by omega) (by omega) (by rw [List.drop_zero, List.length_nil]; omega), List.drop_zero]
 rfl
theorem goodL (b bt : List UInt8) (lv : Int) (hb : b ≠ []) (hG : ∀ a s c r, Good a s → Good c r → Good (a ++ b :: c) (s ++ (bt ++ r))) : ∀ (l : List zJC), (∀ x ∈ l, Pc x lv) → ∀ a s, Good a s → Good (a ++ lt b lv l) (s ++ qt bt lv l) := by
 intro l
 induction l with
 | nil => intro _ a s h; simpa [lt, qt] using h
 | cons x r ih =>
  intro h a s hg
  have h1 := ih (fun y hy => h y (by simp [hy])) _ _ (hG a s _ _ hg (h x (by simp)).g)
  have e1 : a ++ lt b lv (x :: r) = a ++ b :: PP x lv ++ lt b lv r := by simp [lt, hb]
  have e2 : s ++ qt bt lv (x :: r) = s ++ (bt ++ QP x lv) ++ qt bt lv r := by simp [qt]
  rw [e1, e2]; exact h1
theorem goodLs (b bt : List UInt8) (lv : Int) (hb : b ≠ []) (hG : ∀ a s c r, Good a s → Good c r → Good (a ++ b :: c) (s ++ (bt ++ r))) (l : List zJC) (hl : 1 ≤ l.length) (h : ∀ x ∈ l, Pc x lv) : Good (ls b lv l) (qs' bt lv l) := by
 match l, hl with
 | x :: r, _ => exact goodL b bt lv hb hG r (fun y hy => h y (by simp [hy])) _ _ (h x (by simp)).g
theorem hGc : ∀ a s c r, Good a s → Good c r → Good (a ++ [44] :: c) (s ++ ([44, 32] ++ r)) := fun a s c r h1 h2 => G4 h1 h2
theorem hGs : ∀ a s c r, Good a s → Good c r → Good (a ++ [42] :: c) (s ++ ([32, 42, 32] ++ r)) := fun a s c r h1 h2 => G6 (by unfold plT; decide) h1 h2
theorem hGb : ∀ a s c r, Good a s → Good c r → Good (a ++ [124] :: c) (s ++ ([32, 124, 32] ++ r)) := fun a s c r h1 h2 => G6 (by unfold plT; decide) h1 h2
theorem goodW : ∀ (l : List zJC), (∀ x ∈ l, Pr x) → ∀ a s, Good a s → Good (ls [] 0 l ++ a) (qw l ++ s) := by
 have e0 : ∀ l, lt [] 0 l = ls [] 0 l := fun l => by cases l <;> simp [lt, ls]
 intro l
 induction l with
 | nil => intro _ a s h; exact h
 | cons x r ih =>
  intro h a s hg
  have h1 := G2 (h x (by simp)).g (ih (fun y hy => h y (by simp [hy])) a s hg)
  have e1 : ls [] 0 (x :: r) ++ a = PT x ++ (ls [] 0 r ++ a) := by rw [ls, PP0, e0, List.append_assoc]
  have e2 : qw (x :: r) ++ s = QT x ++ 32 :: (qw r ++ s) := by simp [qw]
  rw [e1, e2]; exact h1
def LW (s : List UInt8) : Prop := (∃ c r, s = c :: r ∧ c ≠ 40 ∧ c ≠ 41 ∧ c ≠ 44 ∧ c ≠ 59) ∧ s.length ≤ 24
theorem LW.pl {s : List UInt8} (h : LW s) (r : List UInt8) : plT (s ++ r) := by
 obtain ⟨⟨c, q, rfl, h1, h2, h3, h4⟩, _⟩ := h
 refine ⟨?_, ?_, ?_, ?_⟩ <;> (intro e; injection e; contradiction)
theorem LW.p {s : List UInt8} (h : LW s) : plT s := by have := h.pl []; rwa [List.append_nil] at this
theorem nm_LW (p : UInt8 → Bool) (hp : ∀ c, p c = true → c ≠ 40 ∧ c ≠ 41 ∧ c ≠ 44 ∧ c ≠ 59) {s : List UInt8} (h : nm p s = true) : LW s := by
 match s, h with
 | c :: r, h =>
  rw [nm_cons, Bool.and_eq_true, Bool.and_eq_true] at h
  obtain ⟨h1, h2, h3⟩ := h
  exact ⟨⟨c, r, rfl, hp c h2⟩, of_decide_eq_true h1⟩
theorem ca_ok (c : UInt8) (h : caB c = true) : c ≠ 40 ∧ c ≠ 41 ∧ c ≠ 44 ∧ c ≠ 59 := by
 refine ⟨?_, ?_, ?_, ?_⟩ <;> (rintro rfl; revert h; decide)
theorem sm_ok (c : UInt8) (h : smB c = true) : c ≠ 40 ∧ c ≠ 41 ∧ c ≠ 44 ∧ c ≠ 59 := by
 refine ⟨?_, ?_, ?_, ?_⟩ <;> (rintro rfl; revert h; decide)
theorem up_LW {s : List UInt8} (h : nm caB s = true) : LW s := nm_LW caB ca_ok h
theorem lo_LW {s : List UInt8} (h : loS s = true) : LW s := by
 unfold loS at h
 rw [Bool.and_eq_true] at h
 exact nm_LW smB sm_ok h.1
theorem va_LW {s : List UInt8} (h : vaS s = true) : LW s := by
 match s, h with
 | c :: r, h =>
  rw [zIi, Bool.and_eq_true, Bool.and_eq_true] at h
  have h1 := of_decide_eq_true h.1
  refine ⟨⟨c, r, rfl, ?_, ?_, ?_, ?_⟩, of_decide_eq_true h.2.1⟩ <;> (rintro rfl; revert h1; decide)
theorem pth_LW (low : Bool) : ∀ l : List (List UInt8), chkP low l = true → ∀ x ∈ l, LW x
 | [], _, x, hx => by cases hx
 | [y], h, x, hx => by
  rw [List.mem_singleton] at hx; subst hx
  have e : (if low = true then loS x else nm caB x) = true := h
  cases low
  ·exact up_LW e
  ·exact lo_LW e
 | y :: z :: r, h, x, hx => by
  have e : (nm caB y && chkP low (z :: r)) = true := h
  rw [Bool.and_eq_true] at e
  rcases List.mem_cons.1 hx with rfl | hx
  ·exact up_LW e.1
  ·exact pth_LW low (z :: r) e.2 x hx
theorem joinLen (b : List UInt8) (hb : b.length ≤ 2) : ∀ l : List (List UInt8), (∀ x ∈ l, LW x) → (Lib.joinTail b l).length ≤ 26 * l.length
 | [], _ => by simp [Lib.joinTail]
 | x :: r, h => by
  have h1 := (h x (by simp)).2
  have h2 := joinLen b hb r (fun y hy => h y (by simp [hy]))
  unfold Lib.joinTail at h2 ⊢
  simp only [List.map_cons, List.flatten_cons, List.length_append, List.length_cons]
  omega
theorem zFo {l : List (List UInt8)} {low : Bool} (h : pth l low = true) : plT (Lib.join l [46]) ∧ (Lib.join l [46]).length ≤ 300 ∧ l.length ≤ 8 := by
 unfold pth at h
 simp only [Bool.and_eq_true, decide_eq_true_eq] at h
 obtain ⟨⟨h1, h2⟩, h3⟩ := h
 have h4 := pth_LW low l h3
 match l, h1, h2, h4 with
 | x :: r, h1, h2, h4 =>
  rw [Lib.join_cons]
  have h5 := (h4 x (by simp)).2
  have h6 := joinLen [46] (by simp) r (fun y hy => h4 y (by simp [hy]))
  rw [List.length_cons] at h2
  refine ⟨(h4 x (by simp)).pl _, ?_, h2⟩
  rw [List.length_append]; omega
theorem ppath {l : List (List UInt8)} (h : (Lib.join l [46]).length ≤ 300) (h2 : l.length ≤ 8) : zBX l = some (Lib.join l [46]) := by
 rw [zBX, zDz, if_pos ⟨by omega, by omega⟩]; rfl
theorem zGS {l : List (List UInt8)} (h : (Lib.join l [46]).length ≤ 300) (h2 : l.length ≤ 8) (f : Nat) (hf : 20 ≤ f) : zBq f l = some (Lib.join l [46]) := by
 rw [zBq, zH8 l [46] (by omega) (by omega)]; rfl
def pt : List (List UInt8) → List (List UInt8)
 | [] => []
 | [x] => [x]
 | x :: y :: r => [40] :: (x :: ((y :: r).map (fun z => [[44], z])).flatten ++ [[41]])
def pq : List (List UInt8) → List UInt8
 | [] => []
 | [x] => x ++ [32]
 | x :: y :: r => 40 :: (x ++ Lib.joinTail [44, 32] (y :: r) ++ [41, 32])
theorem prmF_va : ∀ (l s : List (List UInt8)), prmF s l = true → ∀ x ∈ l, LW x
 | [], _, _, x, hx => by cases hx
 | y :: r, s, h, x, hx => by
  rw [prmF, Bool.and_eq_true, Bool.and_eq_true] at h
  rcases List.mem_cons.1 hx with rfl | hx
  ·exact va_LW h.1.1
  ·exact prmF_va r _ h.2 x hx
theorem prm_ok {l : List (List UInt8)} (h : prm l = true) : l.length ≤ 4 ∧ ∀ x ∈ l, LW x := by
 unfold prm at h
 rw [Bool.and_eq_true] at h
 exact ⟨by have := leT h.2; omega, prmF_va l [] h.1⟩
theorem comG : ∀ (l a : List (List UInt8)) (s : List UInt8), (∀ x ∈ l, LW x) → Good a s → Good (a ++ (l.map (fun z => [[44], z])).flatten) (s ++ Lib.joinTail [44, 32] l)
 | [], a, s, _, h => by simpa [Lib.joinTail] using h
 | x :: r, a, s, hl, h => by
  have h1 := comG r _ _ (fun y hy => hl y (by simp [hy])) (G4 h (G1 (hl x (by simp)).p))
  have e1 : a ++ ((x :: r).map (fun z => [[44], z])).flatten = a ++ [44] :: [x] ++ (r.map (fun z => [[44], z])).flatten := by simp
  have e2 : s ++ Lib.joinTail [44, 32] (x :: r) = s ++ 44 :: 32 :: x ++ Lib.joinTail [44, 32] r := by simp [Lib.joinTail]
  rw [e1, e2]; exact h1
theorem parG {l : List (List UInt8)} (hl : ∀ x ∈ l, LW x) {a : List (List UInt8)} {s : List UInt8} (h : Good a s) : Good (pt l ++ a) (pq l ++ s) := by
 match l, hl with
 | [], _ => exact h
 | [x], hl =>
  have := G2 (G1 (hl x (by simp)).p) h
  rw [pt, pq, List.append_assoc]; exact this
 | x :: y :: r, hl =>
  have h1 := comG (y :: r) [x] x (fun z hz => hl z (by simp only [List.mem_cons] at hz ⊢; exact .inr hz)) (G1 (hl x (by simp)).p)
  have h2 := G2 (G3 h1) h
  rw [pt, pq]
  simp only [List.cons_append, List.append_assoc, List.nil_append] at h2 ⊢
  exact h2
theorem pt_len {l : List (List UInt8)} (h : l.length ≤ 4) : (pt l).length ≤ 10 := by
 match l, h with
 | [], _ => simp [pt]
 | [_], _ => simp [pt]
 | [_, _], _ => simp [pt]
 | [_, _, _], _ => simp [pt]
 | [_, _, _, _], _ => simp [pt]
theorem pq_len {l : List (List UInt8)} (h : l.length ≤ 4) (hl : ∀ x ∈ l, LW x) : (pq l).length ≤ 200 := by
 match l, h, hl with
 | [], _, _ => simp [pq]
 | [x], _, hl => have := (hl x (by simp)).2; rw [pq, List.length_append, List.length_singleton]; omega
 | x :: y :: r, h, hl =>
  have h1 := (hl x (by simp)).2
  have h2 := joinLen [44, 32] (by simp) (y :: r) (fun z hz => hl z (by simp only [List.mem_cons] at hz ⊢; exact .inr hz))
  rw [List.length_cons] at h
  rw [pq, List.length_cons, List.length_append, List.length_append, List.length_cons, List.length_singleton]
  omega
theorem fl2 : ∀ l : List (List UInt8), (l.map (fun z => [[44], z])).flatten.length = 2 * l.length
 | [] => rfl
 | x :: r => by rw [List.map_cons, List.flatten_cons, List.length_append, fl2 r]; simp; omega
theorem par_loop (l : List (List UInt8)) (hl : l.length ≤ 10) : ∀ (n i k : Nat) (w : List (List UInt8)), i + n = l.length → n + 1 ≤ k → w.length + 2 * n ≤ 1500000 → 1 ≤ i → zA3 l k w i = some (w ++ ((l.drop i).map (fun z => [[44], z])).flatten) := by
 intro n
 induction n with
 | zero =>
  intro i k w hi hk hw h1
  obtain ⟨g, rfl⟩ : ∃ g, k = g + 1 := ⟨k - 1, by omega⟩
  rw [zA3, if_neg (ltN (by omega)), List.drop_eq_nil_of_le (by omega)]
  simp
 | succ n ih =>
  intro i k w hi hk hw h1
  obtain ⟨g, rfl⟩ : ∃ g, k = g + 1 := ⟨k - 1, by omega⟩
  have hx : l[i]? = some l[i] := List.getElem?_eq_getElem (by omega)
  have hd : l.drop i = l[i] :: l.drop (i + 1) := List.drop_eq_getElem_cons (by omega)
  rw [zA3, if_pos (ltP (by omega)), hx, zAg, hd, if_pos (show ltI 0 ((i : Nat) : Int) = true from decide_eq_true (by omega))]
  generalize l[i] = x
  rw [put_M _ _ (by simp; omega), zAg, put_M _ _ (by simp; omega), zAg, ih (i + 1) g _ (by omega) (by omega) (by simp; omega) (by omega)]
  simp
theorem par_M {l : List (List UInt8)} (hl : l.length ≤ 4) (w : List (List UInt8)) (f : Nat) (hw : w.length ≤ 1100000) (hf : 20 ≤ f) : zBJ f l ⟨w⟩ = some ⟨w ++ pt l⟩ := by
 obtain ⟨g, rfl⟩ : ∃ g, f = g + 1 := ⟨f - 1, by omega⟩
 match l, hl with
 | [], _ => rw [zBJ, pt, List.append_nil]; rfl
 | [x], _ =>
  rw [zBJ, show eqI (([x] : List (List UInt8)).length : Int) 0 = false from rfl, show eqI (([x] : List (List UInt8)).length : Int) 1 = true from rfl]
  simp only [Bool.false_eq_true, if_false, if_true, List.getElem?_cons_zero, zAg]
  rw [put_M _ _ (by simp; omega)]; rfl
 | x :: y :: r, hl =>
  rw [zBJ, show eqI ((x :: y :: r).length : Int) 0 = false from decide_eq_false (by simp; omega), show eqI ((x :: y :: r).length : Int) 1 = false from decide_eq_false (by simp; omega)]
  simp only [Bool.false_eq_true, if_false]
  rw [put_M _ _ (by simp; omega), zAg, zA3, if_pos (ltP (by simp)), List.getElem?_cons_zero, zAg, if_neg (by decide), put_M _ _ (by simp; omega), zAg, par_loop (x :: y :: r) (by omega) (r.length + 1) 1 g _ (by simp; omega) (by simp at hl; omega) (by simp at hl ⊢; omega) (by omega), zAg, put_M _ _ (by rw [List.length_append, fl2]; simp at hl ⊢; omega), zAg, pt]
  simp
theorem rpar_M {l : List (List UInt8)} (hl : l.length ≤ 4) (h : ∀ x ∈ l, LW x) (f : Nat) (hf : 20 ≤ f) : zCh f l = some (pq l) := by
 have hq := pq_len hl h
 match l, hl, h, hq with
 | [], _, _, _ => rw [zCh]; rfl
 | [x], _, h, _ =>
  rw [zCh, show eqI (([x] : List (List UInt8)).length : Int) 0 = false from rfl, show eqI (([x] : List (List UInt8)).length : Int) 1 = true from rfl]
  simp only [Bool.false_eq_true, if_false, if_true, List.getElem?_cons_zero, zAg]
  have := (h x (by simp)).2
  rw [cat1 (by simp; omega)]; rfl
 | x :: y :: r, hl, h, hq =>
  rw [pq, List.length_cons, List.length_append, List.length_append] at hq
  rw [zCh, show eqI ((x :: y :: r).length : Int) 0 = false from decide_eq_false (by simp; omega), show eqI ((x :: y :: r).length : Int) 1 = false from decide_eq_false (by simp; omega)]
  simp only [Bool.false_eq_true, if_false]
  rw [zH8 (x :: y :: r) [44, 32] (by rw [Lib.join_cons, List.length_append]; omega) (by omega), zAg, Lib.join_cons, cat1 (by rw [List.length_append, List.length_singleton]; omega), zAg, cat1 (by rw [List.length_append, List.length_append, List.length_singleton, List.length_cons, List.length_singleton]; omega), zAg, pq]
  simp
theorem namG : ∀ (l a : List (List UInt8)) (s : List UInt8), (∀ x ∈ l, LW x) → Good a s → Good (a ++ l) (s ++ Lib.joinTail [32] l)
 | [], a, s, _, h => by simpa [Lib.joinTail] using h
 | x :: r, a, s, hl, h => by
  have h1 := namG r _ _ (fun y hy => hl y (by simp [hy])) (G2 h (G1 (hl x (by simp)).p))
  have e1 : a ++ x :: r = a ++ [x] ++ r := by simp
  have e2 : s ++ Lib.joinTail [32] (x :: r) = s ++ 32 :: x ++ Lib.joinTail [32] r := by simp [Lib.joinTail]
  rw [e1, e2]; exact h1
def IH (t : zJC) : Prop := ∀ x, sz x < sz t → ok x false = true → Pr x
theorem okD {t : zJC} (h : ok t false = true) : (nd t false).1 = true ∧ (nd t false).2 = true ∧ ∀ x ∈ t.L, ok x (eqI t.Op 74) = true := by
 rw [ok_eq, Bool.and_eq_true, Bool.and_eq_true] at h
 exact ⟨h.1, h.2.1, List.all_eq_true.1 h.2.2⟩
structure Kids (t : zJC) : Prop where
 p : ∀ x ∈ t.L, Pr x
 s : (t.L.map sz).sum + 1 = sz t
 m : (t.L.map mz).sum + t.L.length + t.S.length + 200 ≤ mz t
 z : sz t ≤ 400
theorem Kids.mk' {t : zJC} (hz : sz t ≤ 400) (h : t.Op ≠ 74) (hok : ok t false = true) (ih : IH t) : Kids t := by
 have h1 := (okD hok).2.2
 rw [show eqI t.Op 74 = false from decide_eq_false h] at h1
 have h2 := sz_eq t
 have h3 := mz_eq t
 exact ⟨fun x hx => ih x (by have := sz_mem hx; omega) (h1 x hx), by omega, by omega, hz⟩
theorem Kids.pc {t : zJC} (k : Kids t) (lv : Int) : ∀ x ∈ t.L, Pc x lv := fun x hx => (k.p x hx).pc (by have := sz_mem hx; have := k.z; omega) lv
theorem Kids.mz {t : zJC} (k : Kids t) : ∀ x ∈ t.L, mz x + 200 ≤ mz t := fun x hx => mz_mem hx
theorem kid1 {t : zJC} {a : Int} (k : Kids t) (h : kids [a] t.L = true) : ∃ x, t.L = [x] ∧ Pr x ∧ sz x + 1 = sz t ∧ mz x + t.S.length + 200 ≤ mz t ∧ bx a x.Op = true := by
 match hL : t.L, h with
 | [x], h =>
  have h1 := k.s; have h2 := k.m
  rw [hL] at h1 h2
  simp only [List.map_cons, List.map_nil, List.sum_cons, List.sum_nil, List.length_cons, List.length_nil] at h1 h2
  rw [kids, Bool.and_eq_true] at h
  exact ⟨x, rfl, k.p x (by rw [hL]; simp), by omega, by omega, h.1⟩
 | [], h => cases h
 | x :: y :: r, h => simp [kids] at h
theorem kid2 {t : zJC} {a b : Int} (k : Kids t) (h : kids [a, b] t.L = true) : ∃ x y, t.L = [x, y] ∧ Pr x ∧ Pr y ∧ sz x + sz y + 1 = sz t ∧ mz x + mz y + t.S.length + 200 ≤ mz t := by
 match hL : t.L, h with
 | [x, y], h =>
  have h1 := k.s; have h2 := k.m
  rw [hL] at h1 h2
  simp only [List.map_cons, List.map_nil, List.sum_cons, List.sum_nil, List.length_cons, List.length_nil] at h1 h2
  exact ⟨x, y, rfl, k.p x (by rw [hL]; simp), k.p y (by rw [hL]; simp), by omega, by omega⟩
 | [], h => cases h
 | [x], h => simp [kids] at h
 | x :: y :: z :: r, h => simp [kids] at h
theorem kid3 {t : zJC} {a b c : Int} (k : Kids t) (h : kids [a, b, c] t.L = true) : ∃ x y z, t.L = [x, y, z] ∧ Pr x ∧ Pr y ∧ Pr z ∧ sz x + sz y + sz z + 1 = sz t ∧ mz x + mz y + mz z + t.S.length + 200 ≤ mz t := by
 match hL : t.L, h with
 | [x, y, z], h =>
  have h1 := k.s; have h2 := k.m
  rw [hL] at h1 h2
  simp only [List.map_cons, List.map_nil, List.sum_cons, List.sum_nil, List.length_cons, List.length_nil] at h1 h2
  exact ⟨x, y, z, rfl, k.p x (by rw [hL]; simp), k.p y (by rw [hL]; simp), k.p z (by rw [hL]; simp), by omega, by omega⟩
 | [], h => cases h
 | [x], h => simp [kids] at h
 | [x, y], h => simp [kids] at h
 | x :: y :: z :: u :: r, h => simp [kids] at h
theorem leD (a b : Int) : leI a b = decide (a ≤ b) := Eq.trans (Bool.and_true _).symm (Bool.and_true _)
theorem zAe {x : List UInt8} (h : decide (x ≠ [40] ∧ x ≠ [41] ∧ x ≠ [44] ∧ x ≠ [59]) = true) : plT x := by
 have := of_decide_eq_true h
 exact this
structure Sub (t : zJC) (l : List zJC) : Prop where
 p : ∀ x ∈ l, Pr x
 s : (l.map sz).sum + 1 ≤ sz t
 m : ∀ x ∈ l, mz x + 200 ≤ mz t
 n : l.length + 200 ≤ mz t
 z : sz t ≤ 400
theorem Sub.pc {t : zJC} {l : List zJC} (S : Sub t l) (lv : Int) : ∀ x ∈ l, Pc x lv := fun x hx => (S.p x hx).pc (by have := sum_mem sz l x hx; have := S.z; have := S.s; omega) lv
theorem Sub.l {t : zJC} {l : List zJC} (S : Sub t l) (b : List UInt8) (lv : Int) : (ls b lv l).length ≤ 40 * (l.map sz).sum := len_ls b lv l (S.pc lv)
theorem Sub.q {t : zJC} {l : List zJC} (S : Sub t l) (b : List UInt8) (lv : Int) (hb : decide (b.length ≤ 3) = true) : (qs' b lv l).length ≤ 40000 * (l.map sz).sum := len_qs b (of_decide_eq_true hb) lv l (S.pc lv)
theorem Sub.w {t : zJC} {l : List zJC} (S : Sub t l) : (qw l).length ≤ 40000 * (l.map sz).sum := len_qw l S.p
theorem zGt {t : zJC} {l : List zJC} (S : Sub t l) (b : List UInt8) (lv : Int) (w : List (List UInt8)) (f : Nat) (h1 : mz t ≤ f + 100) (h2 : w.length + 40 * (l.map sz).sum + 5 ≤ 1000000) : zAl f l lv b ⟨w⟩ = some ⟨w ++ ls b lv l⟩ :=
 list_M l lv b (S.pc lv) w f (by have := S.n; omega) (fun x hx => by have := S.m x hx; omega) h2
theorem zHR {t : zJC} {l : List zJC} (S : Sub t l) (b : List UInt8) (lv : Int) (hb : decide (b.length ≤ 3) = true) (f : Nat) (h1 : mz t ≤ f + 100) : zCw f l lv b = some (qs' b lv l) :=
 rlist_M l lv b (of_decide_eq_true hb) (S.pc lv) (by have := S.s; have := S.z; omega) f (by have := S.n; omega) (fun x hx => by have := S.m x hx; omega)
theorem zIn {t : zJC} {l : List zJC} (S : Sub t l) (f : Nat) (h1 : mz t ≤ f + 100) : zC3 f l = some (qw l) :=
 spaced_M l S.p (by have := S.s; have := S.z; omega) f (by have := S.n; omega) (fun x hx => by have := S.m x hx; omega)
theorem Kids.sub {t : zJC} (k : Kids t) : Sub t t.L := ⟨k.p, by have := k.s; omega, k.mz, by have := k.m; omega, k.z⟩
theorem QL : (decide ((([] : List zJC).length : Int) = 0) = true) ∧ (∀ (x : zJC) (r : List zJC), decide (((x :: r).length : Int) = 0) = false) ∧ (∀ (x : zJC), decide ((([x] : List zJC).length : Int) = 1) = true) ∧ (∀ (x : zJC) (r : List zJC), decide ((((x :: r).length : Nat) : Int) ≤ 0) = false) ∧ (decide ((([] : List zJC).length : Int) ≤ 0) = true) ∧ (∀ l : List (List UInt8), ([] : List (List UInt8)) ++ l = l) ∧ (∀ l : List UInt8, ([] : List UInt8) ++ l = l) :=
 ⟨rfl, fun x r => decide_eq_false (by rw [List.length_cons]; omega), fun _ => rfl, fun x r => decide_eq_false (by rw [List.length_cons]; omega), rfl, fun _ => rfl, fun _ => rfl⟩
theorem mkP (t : zJC) (p : List (List UInt8)) (q : List UInt8) (hs : sz t ≤ 400) (g : Good p q) (h1 : p.length + 5 ≤ 40 * sz t) (h2 : q.length + 5 ≤ 40000 * sz t)
  (hw : ∀ (l : List (List UInt8)) (g : Nat), l.length + 40 * sz t ≤ 1000005 → mz t ≤ g + 10 → zAH (g + 10) t ⟨l⟩ = some ⟨l ++ p⟩)
  (hr : ∀ g : Nat, mz t ≤ g + 10 → zAN (g + 10) t = some q) : Pr t :=
 have hm := mz_eq t
 mkPr t p q hs g h1 h2 (fun l f hl hf => by
  obtain ⟨g, rfl⟩ : ∃ g, f = g + 10 := ⟨f - 10, by omega⟩
  exact hw l g hl hf) (fun f hf => by
  obtain ⟨g, rfl⟩ : ∃ g, f = g + 10 := ⟨f - 10, by omega⟩
  exact hr g hf)
theorem LE : (∀ (α : Type) (a b : List α), (a ++ b).length = a.length + b.length) ∧ (∀ (α : Type) (a : α) (b : List α), (a :: b).length = b.length + 1) ∧ (∀ α : Type, ([] : List α).length = 0) ∧ (∀ (α β : Type) (f : α → β), [].map f = []) ∧ (([] : List Nat).sum = 0) ∧ (∀ (α β : Type) (f : α → β) (a : α) (b : List α), (a :: b).map f = f a :: b.map f) ∧ (∀ (a : Nat) (b : List Nat), (a :: b).sum = a + b.sum) :=
 ⟨fun _ _ _ => List.length_append, fun _ _ _ => rfl, fun _ => rfl, fun _ _ _ => rfl, rfl, fun _ _ _ _ _ => rfl, fun _ _ => List.sum_cons⟩
theorem CD : (∀ a b : Int, leI a b = decide (a ≤ b)) ∧ (∀ (α : Type) (a : α) (l : List α), (a :: l)[0]? = some a) ∧ (∀ (α : Type) (a : α) (l : List α) (i : Nat), (a :: l)[i + 1]? = l[i]?) ∧ (∀ t, PP t 0 = PT t) ∧ (∀ t, QP t 0 = QT t) ∧ (∀ (α : Type) (a b c : List α), a ++ b ++ c = a ++ (b ++ c)) ∧ (∀ (α : Type) (a : α) (b c : List α), a :: b ++ c = a :: (b ++ c)) ∧ (∀ (α : Type) (b : List α), [] ++ b = b) ∧ (∀ (α : Type) (b : List α), b ++ [] = b) ∧ (∀ l w : List (List UInt8), w.length + l.length ≤ 2000000 → zAD l ⟨w⟩ = some ⟨w ++ l⟩) ∧ (∀ x y : List UInt8, x.length + y.length ≤ 1152921504606846976 → cat x y = some (x ++ y)) :=
 ⟨leD, fun _ _ _ => rfl, fun _ _ _ _ => rfl, PP0, QP0, fun _ => List.append_assoc, fun _ _ _ _ => rfl, fun _ _ => rfl, fun _ => List.append_nil, put_M, fun _ _ => cat1⟩
theorem if3 : ltI ((0 : Nat) : Int) (([[105, 102], [116, 104, 101, 110], [101, 108, 115, 101]] : List (List UInt8)).length : Int) = true ∧ ltI ((0 + 1 : Nat) : Int) (([[105, 102], [116, 104, 101, 110], [101, 108, 115, 101]] : List (List UInt8)).length : Int) = true ∧ ltI ((0 + 1 + 1 : Nat) : Int) (([[105, 102], [116, 104, 101, 110], [101, 108, 115, 101]] : List (List UInt8)).length : Int) = true ∧ ltI ((0 + 1 + 1 + 1 : Nat) : Int) (([[105, 102], [116, 104, 101, 110], [101, 108, 115, 101]] : List (List UInt8)).length : Int) = false := ⟨rfl, rfl, rfl, rfl⟩
theorem pr1 (t : zJC) (h : t.Op = 1) (hok : ok t false = true) (hs : sz t ≤ 400) (ih : IH t) : Pr t := by
 obtain ⟨ho, hk, _⟩ := okD hok
 have K := Kids.mk' hs (by rw [h]; decide) hok ih
 rw [nd, h] at ho hk
 simp only [Bool.and_eq_true, Bool.or_eq_true] at ho hk
 have hW := va_LW ho.2
 have hS := hW.p
 have hm := K.m
 have := zBf t
 have := hW.2
 refine mkP t [t.S] t.S hs (G1 hS) ?_ ?_ (fun l g hl hf => ?_) (fun g hf => ?_)
 ·first | omega | (simp only [LE]; omega)
 ·first | omega | (simp only [LE]; omega)
 ·rw [zAH]
  simp (disch := first | omega | (simp only [LE]; omega)) only [h, BB, CD, Int.reduceEq, Int.reduceLE, ↓reduceIte]
 ·rw [zAN]
  simp (disch := first | omega | (simp only [LE]; omega)) only [h, BB, CD, Int.reduceEq, Int.reduceLE, ↓reduceIte, zCp]
theorem pr3 (t : zJC) (h : t.Op = 3) (hok : ok t false = true) (hs : sz t ≤ 400) (ih : IH t) : Pr t := by
 obtain ⟨ho, hk, _⟩ := okD hok
 have K := Kids.mk' hs (by rw [h]; decide) hok ih
 rw [nd, h] at ho hk
 simp only [Bool.and_eq_true, Bool.or_eq_true] at ho hk
 obtain ⟨x, y, hL, hx, hy, hzz, hm⟩ := kid2 K hk
 have cx := hx.pc (by omega) 1
 have cy := hy.pc (by omega) 0
 have := zBf t
 have := cx.l1
 have := cx.l2
 have := hy.l1
 have := hy.l2
 refine mkP t (PP x 1 ++ ([[45, 62]] ++ PT y)) (QP x 1 ++ 32 :: ([45, 62] ++ 32 :: QT y)) hs (G2 (cx.g) (G2 (G1 (zAe rfl)) (hy.g))) ?_ ?_ (fun l g hl hf => ?_) (fun g hf => ?_)
 ·first | omega | (simp only [LE]; omega)
 ·first | omega | (simp only [LE]; omega)
 ·rw [zAH]
  simp (disch := first | omega | (simp only [LE]; omega)) only [h, BB, CD, Int.reduceEq, Int.reduceLE, ↓reduceIte, hL, cx.w, cy.w]
 ·rw [zAN]
  simp (disch := first | omega | (simp only [LE]; omega)) only [h, BB, CD, Int.reduceEq, Int.reduceLE, ↓reduceIte, zCp, hL, cx.r, hy.r, cy.r]
theorem pr5 (t : zJC) (h : t.Op = 5) (hok : ok t false = true) (hs : sz t ≤ 400) (ih : IH t) : Pr t := by
 obtain ⟨ho, hk, _⟩ := okD hok
 have K := Kids.mk' hs (by rw [h]; decide) hok ih
 rw [nd, h] at ho hk
 simp only [Bool.and_eq_true, Bool.or_eq_true] at ho hk
 have hP := zFo ho.2
 have hm := K.m
 have := zBf t
 have := hP.2.1
 have := hP.2.2
 refine mkP t ([40] :: (([[109, 111, 100, 117, 108, 101]] ++ [Lib.join t.Names [46]]) ++ [[41]])) (40 :: (([109, 111, 100, 117, 108, 101] ++ 32 :: (Lib.join t.Names [46])) ++ [41])) hs (G3 (G2 (G1 (zAe rfl)) (G1 hP.1))) ?_ ?_ (fun l g hl hf => ?_) (fun g hf => ?_)
 ·first | omega | (simp only [LE]; omega)
 ·first | omega | (simp only [LE]; omega)
 ·rw [zAH]
  simp (disch := first | omega | (simp only [LE]; omega)) only [h, BB, CD, Int.reduceEq, Int.reduceLE, ↓reduceIte, ppath hP.2.1 hP.2.2]
 ·rw [zAN]
  simp (disch := first | omega | (simp only [LE]; omega)) only [h, BB, CD, Int.reduceEq, Int.reduceLE, ↓reduceIte, zCp, zGS hP.2.1 hP.2.2]
theorem pr11 (t : zJC) (h : t.Op = 11) (hok : ok t false = true) (hs : sz t ≤ 400) (ih : IH t) : Pr t := by
 obtain ⟨ho, hk, _⟩ := okD hok
 have K := Kids.mk' hs (by rw [h]; decide) hok ih
 rw [nd, h] at ho hk
 simp only [Bool.and_eq_true, Bool.or_eq_true] at ho hk
 have hm := K.m
 have := zBf t
 refine mkP t [[95]] [95] hs (G1 (zAe rfl)) ?_ ?_ (fun l g hl hf => ?_) (fun g hf => ?_)
 ·first | omega | (simp only [LE]; omega)
 ·first | omega | (simp only [LE]; omega)
 ·rw [zAH]
  simp (disch := first | omega | (simp only [LE]; omega)) only [h, BB, CD, Int.reduceEq, Int.reduceLE, ↓reduceIte]
 ·rw [zAN]
  simp (disch := first | omega | (simp only [LE]; omega)) only [h, BB, CD, Int.reduceEq, Int.reduceLE, ↓reduceIte, zAX]
theorem pr12 (t : zJC) (h : t.Op = 12) (hok : ok t false = true) (hs : sz t ≤ 400) (ih : IH t) : Pr t := by
 obtain ⟨ho, hk, _⟩ := okD hok
 have K := Kids.mk' hs (by rw [h]; decide) hok ih
 rw [nd, h] at ho hk
 simp only [Bool.and_eq_true, Bool.or_eq_true] at ho hk
 have hW := lo_LW ho.2
 have hS := hW.p
 have hm := K.m
 have := zBf t
 have := hW.2
 refine mkP t [t.S] t.S hs (G1 hS) ?_ ?_ (fun l g hl hf => ?_) (fun g hf => ?_)
 ·first | omega | (simp only [LE]; omega)
 ·first | omega | (simp only [LE]; omega)
 ·rw [zAH]
  simp (disch := first | omega | (simp only [LE]; omega)) only [h, BB, CD, Int.reduceEq, Int.reduceLE, ↓reduceIte]
 ·rw [zAN]
  simp (disch := first | omega | (simp only [LE]; omega)) only [h, BB, CD, Int.reduceEq, Int.reduceLE, ↓reduceIte, zAX]
theorem pr23 (t : zJC) (h : t.Op = 23) (hok : ok t false = true) (hs : sz t ≤ 400) (ih : IH t) : Pr t := by
 obtain ⟨ho, hk, _⟩ := okD hok
 have K := Kids.mk' hs (by rw [h]; decide) hok ih
 rw [nd, h] at ho hk
 simp only [Bool.and_eq_true, Bool.or_eq_true] at ho hk
 have hP := zFo ho.2
 have hm := K.m
 have := zBf t
 have := hP.2.1
 have := hP.2.2
 refine mkP t [Lib.join t.Names [46]] (Lib.join t.Names [46]) hs (G1 hP.1) ?_ ?_ (fun l g hl hf => ?_) (fun g hf => ?_)
 ·first | omega | (simp only [LE]; omega)
 ·first | omega | (simp only [LE]; omega)
 ·rw [zAH]
  simp (disch := first | omega | (simp only [LE]; omega)) only [h, BB, CD, Int.reduceEq, Int.reduceLE, ↓reduceIte, ppath hP.2.1 hP.2.2]
 ·rw [zAN]
  simp (disch := first | omega | (simp only [LE]; omega)) only [h, BB, CD, Int.reduceEq, Int.reduceLE, ↓reduceIte, zAX, zGS hP.2.1 hP.2.2]
theorem pr24 (t : zJC) (h : t.Op = 24) (hok : ok t false = true) (hs : sz t ≤ 400) (ih : IH t) : Pr t := by
 obtain ⟨ho, hk, _⟩ := okD hok
 have K := Kids.mk' hs (by rw [h]; decide) hok ih
 rw [nd, h] at ho hk
 simp only [Bool.and_eq_true, Bool.or_eq_true] at ho hk
 have hP := zFo ho.2
 have hm := K.m
 have := zBf t
 have := hP.2.1
 have := hP.2.2
 refine mkP t [Lib.join t.Names [46]] (Lib.join t.Names [46]) hs (G1 hP.1) ?_ ?_ (fun l g hl hf => ?_) (fun g hf => ?_)
 ·first | omega | (simp only [LE]; omega)
 ·first | omega | (simp only [LE]; omega)
 ·rw [zAH]
  simp (disch := first | omega | (simp only [LE]; omega)) only [h, BB, CD, Int.reduceEq, Int.reduceLE, ↓reduceIte, ppath hP.2.1 hP.2.2]
 ·rw [zAN]
  simp (disch := first | omega | (simp only [LE]; omega)) only [h, BB, CD, Int.reduceEq, Int.reduceLE, ↓reduceIte, zAX, zGS hP.2.1 hP.2.2]
theorem pr26 (t : zJC) (h : t.Op = 26) (hok : ok t false = true) (hs : sz t ≤ 400) (ih : IH t) : Pr t := by
 obtain ⟨ho, hk, _⟩ := okD hok
 have K := Kids.mk' hs (by rw [h]; decide) hok ih
 rw [nd, h] at ho hk
 simp only [Bool.and_eq_true, Bool.or_eq_true] at ho hk
 obtain ⟨x, y, hL, hx, hy, hzz, hm⟩ := kid2 K hk
 have cx := hx.pc (by omega) 8
 have cy := hy.pc (by omega) 9
 have := zBf t
 have := cx.l1
 have := cx.l2
 have := cy.l1
 have := cy.l2
 refine mkP t (PP x 8 ++ PP y 9) (QP x 8 ++ 32 :: QP y 9) hs (G2 (cx.g) (cy.g)) ?_ ?_ (fun l g hl hf => ?_) (fun g hf => ?_)
 ·first | omega | (simp only [LE]; omega)
 ·first | omega | (simp only [LE]; omega)
 ·rw [zAH]
  simp (disch := first | omega | (simp only [LE]; omega)) only [h, BB, CD, Int.reduceEq, Int.reduceLE, ↓reduceIte, zAI, hL, cx.w, cy.w]
 ·rw [zAN]
  simp (disch := first | omega | (simp only [LE]; omega)) only [h, BB, CD, Int.reduceEq, Int.reduceLE, ↓reduceIte, zAX, hL, cx.r, cy.r]
theorem pr30 (t : zJC) (h : t.Op = 30) (hok : ok t false = true) (hs : sz t ≤ 400) (ih : IH t) : Pr t := by
 obtain ⟨ho, hk, _⟩ := okD hok
 have K := Kids.mk' hs (by rw [h]; decide) hok ih
 rw [nd, h] at ho hk
 simp only [Bool.and_eq_true, Bool.or_eq_true] at ho hk
 obtain ⟨x, y, hL, hx, hy, hzz, hm⟩ := kid2 K hk
 have cx := hx.pc (by omega) 0
 have cy := hy.pc (by omega) 0
 have := zBf t
 have := hx.l1
 have := hx.l2
 have := hy.l1
 have := hy.l2
 refine mkP t (PT x ++ ([[61, 62]] ++ PT y)) (QT x ++ 32 :: ([61, 62] ++ 32 :: QT y)) hs (G2 (hx.g) (G2 (G1 (zAe rfl)) (hy.g))) ?_ ?_ (fun l g hl hf => ?_) (fun g hf => ?_)
 ·first | omega | (simp only [LE]; omega)
 ·first | omega | (simp only [LE]; omega)
 ·rw [zAH]
  simp (disch := first | omega | (simp only [LE]; omega)) only [h, BB, CD, Int.reduceEq, Int.reduceLE, ↓reduceIte, zAI, hL, cx.w, cy.w]
 ·rw [zAN]
  simp (disch := first | omega | (simp only [LE]; omega)) only [h, BB, CD, Int.reduceEq, Int.reduceLE, ↓reduceIte, zAX, hL, hx.r, cx.r, hy.r, cy.r]
theorem pr33 (t : zJC) (h : t.Op = 33) (hok : ok t false = true) (hs : sz t ≤ 400) (ih : IH t) : Pr t := by
 obtain ⟨ho, hk, _⟩ := okD hok
 have K := Kids.mk' hs (by rw [h]; decide) hok ih
 rw [nd, h] at ho hk
 simp only [Bool.and_eq_true, Bool.or_eq_true] at ho hk
 obtain ⟨x, y, hL, hx, hy, hzz, hm⟩ := kid2 K hk
 have cx := hx.pc (by omega) 0
 have cy := hy.pc (by omega) 0
 have := zBf t
 have := hx.l1
 have := hx.l2
 have := hy.l1
 have := hy.l2
 refine mkP t ([40] :: ((PT x ++ ([[58]] ++ PT y)) ++ [[41]])) (40 :: ((QT x ++ 32 :: ([58] ++ 32 :: QT y)) ++ [41])) hs (G3 (G2 (hx.g) (G2 (G1 (zAe rfl)) (hy.g)))) ?_ ?_ (fun l g hl hf => ?_) (fun g hf => ?_)
 ·first | omega | (simp only [LE]; omega)
 ·first | omega | (simp only [LE]; omega)
 ·rw [zAH]
  simp (disch := first | omega | (simp only [LE]; omega)) only [h, BB, CD, Int.reduceEq, Int.reduceLE, ↓reduceIte, zAI, hL, cx.w, cy.w]
 ·rw [zAN]
  simp (disch := first | omega | (simp only [LE]; omega)) only [h, BB, CD, Int.reduceEq, Int.reduceLE, ↓reduceIte, zAX, hL, hx.r, cx.r, hy.r, cy.r]
theorem pr41 (t : zJC) (h : t.Op = 41) (hok : ok t false = true) (hs : sz t ≤ 400) (ih : IH t) : Pr t := by
 obtain ⟨ho, hk, _⟩ := okD hok
 have K := Kids.mk' hs (by rw [h]; decide) hok ih
 rw [nd, h] at ho hk
 simp only [Bool.and_eq_true, Bool.or_eq_true] at ho hk
 have hW := lo_LW ho.2
 have hS := hW.p
 obtain ⟨x, hL, hx, hzz, hm, hb⟩ := kid1 K hk
 have cx := hx.pc (by omega) 0
 have := zBf t
 have := hW.2
 have := hx.l1
 have := hx.l2
 refine mkP t ([[118, 97, 108]] ++ ([t.S] ++ ([[61]] ++ PT x))) ([118, 97, 108] ++ 32 :: (t.S ++ 32 :: ([61] ++ 32 :: QT x))) hs (G2 (G1 (zAe rfl)) (G2 (G1 hS) (G2 (G1 (zAe rfl)) (hx.g)))) ?_ ?_ (fun l g hl hf => ?_) (fun g hf => ?_)
 ·first | omega | (simp only [LE]; omega)
 ·first | omega | (simp only [LE]; omega)
 ·rw [zAH]
  simp (disch := first | omega | (simp only [LE]; omega)) only [h, BB, CD, Int.reduceEq, Int.reduceLE, ↓reduceIte, zAI, zAT, hL, cx.w]
 ·rw [zAN]
  simp (disch := first | omega | (simp only [LE]; omega)) only [h, BB, CD, Int.reduceEq, Int.reduceLE, ↓reduceIte, zAh, hL, hx.r, cx.r]
theorem pr46 (t : zJC) (h : t.Op = 46) (hok : ok t false = true) (hs : sz t ≤ 400) (ih : IH t) : Pr t := by
 obtain ⟨ho, hk, _⟩ := okD hok
 have K := Kids.mk' hs (by rw [h]; decide) hok ih
 rw [nd, h] at ho hk
 simp only [Bool.and_eq_true, Bool.or_eq_true] at ho hk
 have hW := up_LW ho.2
 have hS := hW.p
 obtain ⟨x, hL, hx, hzz, hm, hb⟩ := kid1 K hk
 have cx := hx.pc (by omega) 0
 have := zBf t
 have := hW.2
 have := hx.l1
 have := hx.l2
 refine mkP t ([[115, 116, 114, 117, 99, 116, 117, 114, 101]] ++ ([t.S] ++ ([[61]] ++ PT x))) ([115, 116, 114, 117, 99, 116, 117, 114, 101] ++ 32 :: (t.S ++ 32 :: ([61] ++ 32 :: QT x))) hs (G2 (G1 (zAe rfl)) (G2 (G1 hS) (G2 (G1 (zAe rfl)) (hx.g)))) ?_ ?_ (fun l g hl hf => ?_) (fun g hf => ?_)
 ·first | omega | (simp only [LE]; omega)
 ·first | omega | (simp only [LE]; omega)
 ·rw [zAH]
  simp (disch := first | omega | (simp only [LE]; omega)) only [h, BB, CD, Int.reduceEq, Int.reduceLE, ↓reduceIte, zAI, zAT, hL, cx.w]
 ·rw [zAN]
  simp (disch := first | omega | (simp only [LE]; omega)) only [h, BB, CD, Int.reduceEq, Int.reduceLE, ↓reduceIte, zAh, hL, hx.r, cx.r]
theorem pr47 (t : zJC) (h : t.Op = 47) (hok : ok t false = true) (hs : sz t ≤ 400) (ih : IH t) : Pr t := by
 obtain ⟨ho, hk, _⟩ := okD hok
 have K := Kids.mk' hs (by rw [h]; decide) hok ih
 rw [nd, h] at ho hk
 simp only [Bool.and_eq_true, Bool.or_eq_true] at ho hk
 have hW := up_LW ho.2
 have hS := hW.p
 obtain ⟨x, hL, hx, hzz, hm, hb⟩ := kid1 K hk
 have cx := hx.pc (by omega) 0
 have := zBf t
 have := hW.2
 have := hx.l1
 have := hx.l2
 refine mkP t ([[115, 105, 103, 110, 97, 116, 117, 114, 101]] ++ ([t.S] ++ ([[61]] ++ PT x))) ([115, 105, 103, 110, 97, 116, 117, 114, 101] ++ 32 :: (t.S ++ 32 :: ([61] ++ 32 :: QT x))) hs (G2 (G1 (zAe rfl)) (G2 (G1 hS) (G2 (G1 (zAe rfl)) (hx.g)))) ?_ ?_ (fun l g hl hf => ?_) (fun g hf => ?_)
 ·first | omega | (simp only [LE]; omega)
 ·first | omega | (simp only [LE]; omega)
 ·rw [zAH]
  simp (disch := first | omega | (simp only [LE]; omega)) only [h, BB, CD, Int.reduceEq, Int.reduceLE, ↓reduceIte, zAI, zAT, hL, cx.w]
 ·rw [zAN]
  simp (disch := first | omega | (simp only [LE]; omega)) only [h, BB, CD, Int.reduceEq, Int.reduceLE, ↓reduceIte, zAh, hL, hx.r, cx.r]
theorem pr64 (t : zJC) (h : t.Op = 64) (hok : ok t false = true) (hs : sz t ≤ 400) (ih : IH t) : Pr t := by
 obtain ⟨ho, hk, _⟩ := okD hok
 have K := Kids.mk' hs (by rw [h]; decide) hok ih
 rw [nd, h] at ho hk
 simp only [Bool.and_eq_true, Bool.or_eq_true] at ho hk
 have hW := up_LW ho.2
 have hS := hW.p
 obtain ⟨x, hL, hx, hzz, hm, hb⟩ := kid1 K hk
 have cx := hx.pc (by omega) 0
 have := zBf t
 have := hW.2
 have := hx.l1
 have := hx.l2
 refine mkP t ([[115, 105, 103, 110, 97, 116, 117, 114, 101]] ++ ([t.S] ++ ([[61]] ++ PT x))) ([115, 105, 103, 110, 97, 116, 117, 114, 101] ++ 32 :: (t.S ++ 32 :: ([61] ++ 32 :: QT x))) hs (G2 (G1 (zAe rfl)) (G2 (G1 hS) (G2 (G1 (zAe rfl)) (hx.g)))) ?_ ?_ (fun l g hl hf => ?_) (fun g hf => ?_)
 ·first | omega | (simp only [LE]; omega)
 ·first | omega | (simp only [LE]; omega)
 ·rw [zAH]
  simp (disch := first | omega | (simp only [LE]; omega)) only [h, BB, CD, Int.reduceEq, Int.reduceLE, ↓reduceIte, zAI, zAT, zAY, hL, cx.w]
 ·rw [zAN]
  simp (disch := first | omega | (simp only [LE]; omega)) only [h, BB, CD, Int.reduceEq, Int.reduceLE, ↓reduceIte, zAh, hL, hx.r, cx.r]
theorem pr48 (t : zJC) (h : t.Op = 48) (hok : ok t false = true) (hs : sz t ≤ 400) (ih : IH t) : Pr t := by
 obtain ⟨ho, hk, _⟩ := okD hok
 have K := Kids.mk' hs (by rw [h]; decide) hok ih
 rw [nd, h] at ho hk
 simp only [Bool.and_eq_true, Bool.or_eq_true] at ho hk
 have hP := zFo ho.2
 have hm := K.m
 have := zBf t
 have := hP.2.1
 have := hP.2.2
 refine mkP t ([[111, 112, 101, 110]] ++ [Lib.join t.Names [46]]) ([111, 112, 101, 110] ++ 32 :: (Lib.join t.Names [46])) hs (G2 (G1 (zAe rfl)) (G1 hP.1)) ?_ ?_ (fun l g hl hf => ?_) (fun g hf => ?_)
 ·first | omega | (simp only [LE]; omega)
 ·first | omega | (simp only [LE]; omega)
 ·rw [zAH]
  simp (disch := first | omega | (simp only [LE]; omega)) only [h, BB, CD, Int.reduceEq, Int.reduceLE, ↓reduceIte, zAI, zAT, ppath hP.2.1 hP.2.2]
 ·rw [zAN]
  simp (disch := first | omega | (simp only [LE]; omega)) only [h, BB, CD, Int.reduceEq, Int.reduceLE, ↓reduceIte, zAh, zGS hP.2.1 hP.2.2]
theorem pr49 (t : zJC) (h : t.Op = 49) (hok : ok t false = true) (hs : sz t ≤ 400) (ih : IH t) : Pr t := by
 obtain ⟨ho, hk, _⟩ := okD hok
 have K := Kids.mk' hs (by rw [h]; decide) hok ih
 rw [nd, h] at ho hk
 simp only [Bool.and_eq_true, Bool.or_eq_true] at ho hk
 have hP := zFo ho.2
 have hm := K.m
 have := zBf t
 have := hP.2.1
 have := hP.2.2
 refine mkP t ([[105, 110, 99, 108, 117, 100, 101]] ++ [Lib.join t.Names [46]]) ([105, 110, 99, 108, 117, 100, 101] ++ 32 :: (Lib.join t.Names [46])) hs (G2 (G1 (zAe rfl)) (G1 hP.1)) ?_ ?_ (fun l g hl hf => ?_) (fun g hf => ?_)
 ·first | omega | (simp only [LE]; omega)
 ·first | omega | (simp only [LE]; omega)
 ·rw [zAH]
  simp (disch := first | omega | (simp only [LE]; omega)) only [h, BB, CD, Int.reduceEq, Int.reduceLE, ↓reduceIte, zAI, zAT, ppath hP.2.1 hP.2.2]
 ·rw [zAN]
  simp (disch := first | omega | (simp only [LE]; omega)) only [h, BB, CD, Int.reduceEq, Int.reduceLE, ↓reduceIte, zAh, zGS hP.2.1 hP.2.2]
theorem pr50 (t : zJC) (h : t.Op = 50) (hok : ok t false = true) (hs : sz t ≤ 400) (ih : IH t) : Pr t := by
 obtain ⟨ho, hk, _⟩ := okD hok
 have K := Kids.mk' hs (by rw [h]; decide) hok ih
 rw [nd, h] at ho hk
 simp only [Bool.and_eq_true, Bool.or_eq_true] at ho hk
 have hW := up_LW ho.2
 have hS := hW.p
 obtain ⟨x, y, hL, hx, hy, hzz, hm⟩ := kid2 K hk
 have cx := hx.pc (by omega) 9
 have cy := hy.pc (by omega) 2
 have := zBf t
 have := hW.2
 have := cx.l1
 have := cx.l2
 have := cy.l1
 have := cy.l2
 refine mkP t ([[115, 116, 114, 117, 99, 116, 117, 114, 101]] ++ ([t.S] ++ ([[61]] ++ ([[117, 110, 112, 97, 99, 107]] ++ (PP x 9 ++ ([[58]] ++ PP y 2)))))) ([115, 116, 114, 117, 99, 116, 117, 114, 101] ++ 32 :: (t.S ++ 32 :: ([61] ++ 32 :: ([117, 110, 112, 97, 99, 107] ++ 32 :: (QP x 9 ++ 32 :: ([58] ++ 32 :: QP y 2)))))) hs (G2 (G1 (zAe rfl)) (G2 (G1 hS) (G2 (G1 (zAe rfl)) (G2 (G1 (zAe rfl)) (G2 (cx.g) (G2 (G1 (zAe rfl)) (cy.g))))))) ?_ ?_ (fun l g hl hf => ?_) (fun g hf => ?_)
 ·first | omega | (simp only [LE]; omega)
 ·first | omega | (simp only [LE]; omega)
 ·rw [zAH]
  simp (disch := first | omega | (simp only [LE]; omega)) only [h, BB, CD, Int.reduceEq, Int.reduceLE, ↓reduceIte, zAI, zAT, zBw, hL, cx.w, cy.w]
 ·rw [zAN]
  simp (disch := first | omega | (simp only [LE]; omega)) only [h, BB, CD, Int.reduceEq, Int.reduceLE, ↓reduceIte, zAh, hL, cx.r, cy.r]
theorem pr61 (t : zJC) (h : t.Op = 61) (hok : ok t false = true) (hs : sz t ≤ 400) (ih : IH t) : Pr t := by
 obtain ⟨ho, hk, _⟩ := okD hok
 have K := Kids.mk' hs (by rw [h]; decide) hok ih
 rw [nd, h] at ho hk
 simp only [Bool.and_eq_true, Bool.or_eq_true] at ho hk
 have hW := lo_LW ho.2
 have hS := hW.p
 obtain ⟨x, hL, hx, hzz, hm, hb⟩ := kid1 K hk
 have cx := hx.pc (by omega) 0
 have := zBf t
 have := hW.2
 have := hx.l1
 have := hx.l2
 refine mkP t ([[118, 97, 108]] ++ ([t.S] ++ ([[58]] ++ PT x))) ([118, 97, 108] ++ 32 :: (t.S ++ 32 :: ([58] ++ 32 :: QT x))) hs (G2 (G1 (zAe rfl)) (G2 (G1 hS) (G2 (G1 (zAe rfl)) (hx.g)))) ?_ ?_ (fun l g hl hf => ?_) (fun g hf => ?_)
 ·first | omega | (simp only [LE]; omega)
 ·first | omega | (simp only [LE]; omega)
 ·rw [zAH]
  simp (disch := first | omega | (simp only [LE]; omega)) only [h, BB, CD, Int.reduceEq, Int.reduceLE, ↓reduceIte, zAI, zAT, zAY, hL, cx.w]
 ·rw [zAN]
  simp (disch := first | omega | (simp only [LE]; omega)) only [h, BB, CD, Int.reduceEq, Int.reduceLE, ↓reduceIte, zAh, hL, hx.r, cx.r]
theorem pr63 (t : zJC) (h : t.Op = 63) (hok : ok t false = true) (hs : sz t ≤ 400) (ih : IH t) : Pr t := by
 obtain ⟨ho, hk, _⟩ := okD hok
 have K := Kids.mk' hs (by rw [h]; decide) hok ih
 rw [nd, h] at ho hk
 simp only [Bool.and_eq_true, Bool.or_eq_true] at ho hk
 have hW := up_LW ho.2
 have hS := hW.p
 obtain ⟨x, hL, hx, hzz, hm, hb⟩ := kid1 K hk
 have cx := hx.pc (by omega) 0
 have := zBf t
 have := hW.2
 have := hx.l1
 have := hx.l2
 refine mkP t ([[115, 116, 114, 117, 99, 116, 117, 114, 101]] ++ ([t.S] ++ ([[58]] ++ PT x))) ([115, 116, 114, 117, 99, 116, 117, 114, 101] ++ 32 :: (t.S ++ 32 :: ([58] ++ 32 :: QT x))) hs (G2 (G1 (zAe rfl)) (G2 (G1 hS) (G2 (G1 (zAe rfl)) (hx.g)))) ?_ ?_ (fun l g hl hf => ?_) (fun g hf => ?_)
 ·first | omega | (simp only [LE]; omega)
 ·first | omega | (simp only [LE]; omega)
 ·rw [zAH]
  simp (disch := first | omega | (simp only [LE]; omega)) only [h, BB, CD, Int.reduceEq, Int.reduceLE, ↓reduceIte, zAI, zAT, zAY, hL, cx.w]
 ·rw [zAN]
  simp (disch := first | omega | (simp only [LE]; omega)) only [h, BB, CD, Int.reduceEq, Int.reduceLE, ↓reduceIte, zAh, hL, hx.r, cx.r]
theorem pr65 (t : zJC) (h : t.Op = 65) (hok : ok t false = true) (hs : sz t ≤ 400) (ih : IH t) : Pr t := by
 obtain ⟨ho, hk, _⟩ := okD hok
 have K := Kids.mk' hs (by rw [h]; decide) hok ih
 rw [nd, h] at ho hk
 simp only [Bool.and_eq_true, Bool.or_eq_true] at ho hk
 obtain ⟨x, hL, hx, hzz, hm, hb⟩ := kid1 K hk
 have cx := hx.pc (by omega) 0
 have := zBf t
 have := hx.l1
 have := hx.l2
 refine mkP t ([[105, 110, 99, 108, 117, 100, 101]] ++ PT x) ([105, 110, 99, 108, 117, 100, 101] ++ 32 :: QT x) hs (G2 (G1 (zAe rfl)) (hx.g)) ?_ ?_ (fun l g hl hf => ?_) (fun g hf => ?_)
 ·first | omega | (simp only [LE]; omega)
 ·first | omega | (simp only [LE]; omega)
 ·rw [zAH]
  simp (disch := first | omega | (simp only [LE]; omega)) only [h, BB, CD, Int.reduceEq, Int.reduceLE, ↓reduceIte, zAI, zAT, zAY, hL, cx.w]
 ·rw [zAN]
  simp (disch := first | omega | (simp only [LE]; omega)) only [h, BB, CD, Int.reduceEq, Int.reduceLE, ↓reduceIte, zAh, hL, hx.r, cx.r]
theorem pr72 (t : zJC) (h : t.Op = 72) (hok : ok t false = true) (hs : sz t ≤ 400) (ih : IH t) : Pr t := by
 obtain ⟨ho, hk, _⟩ := okD hok
 have K := Kids.mk' hs (by rw [h]; decide) hok ih
 rw [nd, h] at ho hk
 simp only [Bool.and_eq_true, Bool.or_eq_true] at ho hk
 have hP := zFo ho.2
 have hm := K.m
 have := zBf t
 have := hP.2.1
 have := hP.2.2
 refine mkP t [Lib.join t.Names [46]] (Lib.join t.Names [46]) hs (G1 hP.1) ?_ ?_ (fun l g hl hf => ?_) (fun g hf => ?_)
 ·first | omega | (simp only [LE]; omega)
 ·first | omega | (simp only [LE]; omega)
 ·rw [zAH]
  simp (disch := first | omega | (simp only [LE]; omega)) only [h, BB, CD, Int.reduceEq, Int.reduceLE, ↓reduceIte, ppath hP.2.1 hP.2.2]
 ·rw [zAN]
  simp (disch := first | omega | (simp only [LE]; omega)) only [h, BB, CD, Int.reduceEq, Int.reduceLE, ↓reduceIte, zBb, zGS hP.2.1 hP.2.2]
theorem pr82 (t : zJC) (h : t.Op = 82) (hok : ok t false = true) (hs : sz t ≤ 400) (ih : IH t) : Pr t := by
 obtain ⟨ho, hk, _⟩ := okD hok
 have K := Kids.mk' hs (by rw [h]; decide) hok ih
 rw [nd, h] at ho hk
 simp only [Bool.and_eq_true, Bool.or_eq_true] at ho hk
 have hP := zFo ho.2
 have hm := K.m
 have := zBf t
 have := hP.2.1
 have := hP.2.2
 refine mkP t [Lib.join t.Names [46]] (Lib.join t.Names [46]) hs (G1 hP.1) ?_ ?_ (fun l g hl hf => ?_) (fun g hf => ?_)
 ·first | omega | (simp only [LE]; omega)
 ·first | omega | (simp only [LE]; omega)
 ·rw [zAH]
  simp (disch := first | omega | (simp only [LE]; omega)) only [h, BB, CD, Int.reduceEq, Int.reduceLE, ↓reduceIte, ppath hP.2.1 hP.2.2]
 ·rw [zAN]
  simp (disch := first | omega | (simp only [LE]; omega)) only [h, BB, CD, Int.reduceEq, Int.reduceLE, ↓reduceIte, zBb, zGS hP.2.1 hP.2.2]
theorem pr84 (t : zJC) (h : t.Op = 84) (hok : ok t false = true) (hs : sz t ≤ 400) (ih : IH t) : Pr t := by
 obtain ⟨ho, hk, _⟩ := okD hok
 have K := Kids.mk' hs (by rw [h]; decide) hok ih
 rw [nd, h] at ho hk
 simp only [Bool.and_eq_true, Bool.or_eq_true] at ho hk
 obtain ⟨x, y, hL, hx, hy, hzz, hm⟩ := kid2 K hk
 have cx := hx.pc (by omega) 2
 have cy := hy.pc (by omega) 0
 have := zBf t
 have := cx.l1
 have := cx.l2
 have := hy.l1
 have := hy.l2
 refine mkP t (PP x 2 ++ ([40] :: (PT y ++ [[41]]))) (QP x 2 ++ 32 :: (40 :: (QT y ++ [41]))) hs (G2 (cx.g) (G3 (hy.g))) ?_ ?_ (fun l g hl hf => ?_) (fun g hf => ?_)
 ·first | omega | (simp only [LE]; omega)
 ·first | omega | (simp only [LE]; omega)
 ·rw [zAH]
  simp (disch := first | omega | (simp only [LE]; omega)) only [h, BB, CD, Int.reduceEq, Int.reduceLE, ↓reduceIte, zAI, zAT, zAY, hL, cx.w, cy.w]
 ·rw [zAN]
  simp (disch := first | omega | (simp only [LE]; omega)) only [h, BB, CD, Int.reduceEq, Int.reduceLE, ↓reduceIte, zBb, hL, cx.r, hy.r, cy.r]
theorem pr85 (t : zJC) (h : t.Op = 85) (hok : ok t false = true) (hs : sz t ≤ 400) (ih : IH t) : Pr t := by
 obtain ⟨ho, hk, _⟩ := okD hok
 have K := Kids.mk' hs (by rw [h]; decide) hok ih
 rw [nd, h] at ho hk
 simp only [Bool.and_eq_true, Bool.or_eq_true] at ho hk
 obtain ⟨x, y, hL, hx, hy, hzz, hm⟩ := kid2 K hk
 have cx := hx.pc (by omega) 1
 have cy := hy.pc (by omega) 2
 have := zBf t
 have := cx.l1
 have := cx.l2
 have := cy.l1
 have := cy.l2
 refine mkP t (PP x 1 ++ ([[58, 62]] ++ PP y 2)) (QP x 1 ++ 32 :: ([58, 62] ++ 32 :: QP y 2)) hs (G2 (cx.g) (G2 (G1 (zAe rfl)) (cy.g))) ?_ ?_ (fun l g hl hf => ?_) (fun g hf => ?_)
 ·first | omega | (simp only [LE]; omega)
 ·first | omega | (simp only [LE]; omega)
 ·rw [zAH]
  simp (disch := first | omega | (simp only [LE]; omega)) only [h, BB, CD, Int.reduceEq, Int.reduceLE, ↓reduceIte, zAI, zAT, zAY, hL, cx.w, cy.w]
 ·rw [zAN]
  simp (disch := first | omega | (simp only [LE]; omega)) only [h, BB, CD, Int.reduceEq, Int.reduceLE, ↓reduceIte, zBb, hL, cx.r, cy.r]
theorem pr86 (t : zJC) (h : t.Op = 86) (hok : ok t false = true) (hs : sz t ≤ 400) (ih : IH t) : Pr t := by
 obtain ⟨ho, hk, _⟩ := okD hok
 have K := Kids.mk' hs (by rw [h]; decide) hok ih
 rw [nd, h] at ho hk
 simp only [Bool.and_eq_true, Bool.or_eq_true] at ho hk
 obtain ⟨x, y, hL, hx, hy, hzz, hm⟩ := kid2 K hk
 have cx := hx.pc (by omega) 1
 have cy := hy.pc (by omega) 2
 have := zBf t
 have := cx.l1
 have := cx.l2
 have := cy.l1
 have := cy.l2
 refine mkP t (PP x 1 ++ ([[58]] ++ PP y 2)) (QP x 1 ++ 32 :: ([58] ++ 32 :: QP y 2)) hs (G2 (cx.g) (G2 (G1 (zAe rfl)) (cy.g))) ?_ ?_ (fun l g hl hf => ?_) (fun g hf => ?_)
 ·first | omega | (simp only [LE]; omega)
 ·first | omega | (simp only [LE]; omega)
 ·rw [zAH]
  simp (disch := first | omega | (simp only [LE]; omega)) only [h, BB, CD, Int.reduceEq, Int.reduceLE, ↓reduceIte, zAI, zAT, zAY, hL, cx.w, cy.w]
 ·rw [zAN]
  simp (disch := first | omega | (simp only [LE]; omega)) only [h, BB, CD, Int.reduceEq, Int.reduceLE, ↓reduceIte, zBb, hL, cx.r, cy.r]
theorem pr88 (t : zJC) (h : t.Op = 88) (hok : ok t false = true) (hs : sz t ≤ 400) (ih : IH t) : Pr t := by
 obtain ⟨ho, hk, _⟩ := okD hok
 have K := Kids.mk' hs (by rw [h]; decide) hok ih
 rw [nd, h] at ho hk
 simp only [Bool.and_eq_true, Bool.or_eq_true] at ho hk
 obtain ⟨x, y, hL, hx, hy, hzz, hm⟩ := kid2 K hk
 have cx := hx.pc (by omega) 9
 have cy := hy.pc (by omega) 2
 have := zBf t
 have := cx.l1
 have := cx.l2
 have := cy.l1
 have := cy.l2
 refine mkP t ([[117, 110, 112, 97, 99, 107]] ++ (PP x 9 ++ ([[58]] ++ PP y 2))) ([117, 110, 112, 97, 99, 107] ++ 32 :: (QP x 9 ++ 32 :: ([58] ++ 32 :: QP y 2))) hs (G2 (G1 (zAe rfl)) (G2 (cx.g) (G2 (G1 (zAe rfl)) (cy.g)))) ?_ ?_ (fun l g hl hf => ?_) (fun g hf => ?_)
 ·first | omega | (simp only [LE]; omega)
 ·first | omega | (simp only [LE]; omega)
 ·rw [zAH]
  simp (disch := first | omega | (simp only [LE]; omega)) only [h, BB, CD, Int.reduceEq, Int.reduceLE, ↓reduceIte, zAI, zAT, zAY, zBw, hL, cx.w, cy.w]
 ·rw [zAN]
  simp (disch := first | omega | (simp only [LE]; omega)) only [h, BB, CD, Int.reduceEq, Int.reduceLE, ↓reduceIte, zBb, hL, cx.r, cy.r]
theorem pr2 (t : zJC) (h : t.Op = 2) (hok : ok t false = true) (hs : sz t ≤ 400) (ih : IH t) : Pr t := by
 obtain ⟨ho, hk, _⟩ := okD hok
 have K := Kids.mk' hs (by rw [h]; decide) hok ih
 rw [nd, h] at ho hk
 simp only [Bool.and_eq_true, Bool.or_eq_true] at ho hk
 have Su := K.sub
 have hsm := K.s
 have hm := K.m
 have hP := zFo ho.2
 rcases (by omega : t.L.length = 0 ∨ t.L.length = 1 ∨ 2 ≤ t.L.length) with hn | hn | hn
 ·have hL : t.L = [] := List.length_eq_zero_iff.1 hn
  have := zBf t
  have := hP.2.1
  have := hP.2.2
  refine mkP t [Lib.join t.Names [46]] (Lib.join t.Names [46]) hs (G1 hP.1) ?_ ?_ (fun l g hl hf => ?_) (fun g hf => ?_)
  ·first | omega | (simp only [LE]; omega)
  ·first | omega | (simp only [LE]; omega)
  ·rw [zAH]
   simp (disch := first | omega | (simp only [LE]; omega)) only [h, BB, CD, Int.reduceEq, Int.reduceLE, ↓reduceIte, ppath hP.2.1 hP.2.2, hL, QL]
  ·rw [zAN]
   simp (disch := first | omega | (simp only [LE]; omega)) only [h, BB, CD, Int.reduceEq, Int.reduceLE, ↓reduceIte, zCp, zGS hP.2.1 hP.2.2, hL, QL]
 ·obtain ⟨x, hL⟩ : ∃ x, t.L = [x] := by
   match hL : t.L, hn with
   | [x], _ => exact ⟨x, rfl⟩
  have hx := K.p x (by rw [hL]; simp)
  rw [hL] at hsm hm
  simp only [List.map_cons, List.map_nil, List.sum_cons, List.sum_nil, List.length_cons, List.length_nil] at hsm hm
  have cx := hx.pc (by omega) 2
  have := zBf t
  have := hP.2.1
  have := hP.2.2
  have := cx.l1
  have := cx.l2
  refine mkP t (PP x 2 ++ [Lib.join t.Names [46]]) (QP x 2 ++ 32 :: (Lib.join t.Names [46])) hs (G2 (cx.g) (G1 hP.1)) ?_ ?_ (fun l g hl hf => ?_) (fun g hf => ?_)
  ·first | omega | (simp only [LE]; omega)
  ·first | omega | (simp only [LE]; omega)
  ·rw [zAH]
   simp (disch := first | omega | (simp only [LE]; omega)) only [h, BB, CD, Int.reduceEq, Int.reduceLE, ↓reduceIte, ppath hP.2.1 hP.2.2, hL, LL, QL, cx.w]
  ·rw [zAN]
   simp (disch := first | omega | (simp only [LE]; omega)) only [h, BB, CD, Int.reduceEq, Int.reduceLE, ↓reduceIte, zCp, zGS hP.2.1 hP.2.2, hL, LL, QL, cx.r]
 ·have z0 : decide ((t.L.length : Int) = 0) = false := decide_eq_false (by omega)
  have z1 : decide ((t.L.length : Int) = 1) = false := decide_eq_false (by omega)
  have := zBf t
  have := hP.2.1
  have := hP.2.2
  have := Su.l [44] 0
  have := Su.q [44, 32] 0 rfl
  refine mkP t (([40] :: ((ls [44] 0 t.L) ++ [[41]])) ++ [Lib.join t.Names [46]]) ((40 :: ((qs' [44, 32] 0 t.L) ++ [41])) ++ 32 :: (Lib.join t.Names [46])) hs (G2 (G3 (goodLs [44] [44, 32] 0 (by decide) hGc t.L (by omega) (Su.pc 0))) (G1 hP.1)) ?_ ?_ (fun l g hl hf => ?_) (fun g hf => ?_)
  ·first | omega | (simp only [LE]; omega)
  ·first | omega | (simp only [LE]; omega)
  ·rw [zAH]
   simp (disch := first | omega | (simp only [LE]; omega)) only [h, BB, CD, Int.reduceEq, Int.reduceLE, ↓reduceIte, ppath hP.2.1 hP.2.2, z0, z1, zGt Su [44] 0]
  ·rw [zAN]
   simp (disch := first | omega | (simp only [LE]; omega)) only [h, BB, CD, Int.reduceEq, Int.reduceLE, ↓reduceIte, zCp, zGS hP.2.1 hP.2.2, z0, z1, zHR Su [44, 32] 0 rfl]
theorem pr4 (t : zJC) (h : t.Op = 4) (hok : ok t false = true) (hs : sz t ≤ 400) (ih : IH t) : Pr t := by
 obtain ⟨ho, hk, _⟩ := okD hok
 have K := Kids.mk' hs (by rw [h]; decide) hok ih
 rw [nd, h] at ho hk
 simp only [Bool.and_eq_true, Bool.or_eq_true] at ho hk
 have Su := K.sub
 have hsm := K.s
 have hm := K.m
 have hn : 1 ≤ t.L.length := by have := leT hk.1; omega
 have := zBf t
 have := Su.l [42] 2
 have := Su.q [32, 42, 32] 2 rfl
 refine mkP t (ls [42] 2 t.L) (qs' [32, 42, 32] 2 t.L) hs (goodLs [42] [32, 42, 32] 2 (by decide) hGs t.L hn (Su.pc 2)) ?_ ?_ (fun l g hl hf => ?_) (fun g hf => ?_)
 ·first | omega | (simp only [LE]; omega)
 ·first | omega | (simp only [LE]; omega)
 ·rw [zAH]
  simp (disch := first | omega | (simp only [LE]; omega)) only [h, BB, CD, Int.reduceEq, Int.reduceLE, ↓reduceIte, zGt Su [42] 2]
 ·rw [zAN]
  simp (disch := first | omega | (simp only [LE]; omega)) only [h, BB, CD, Int.reduceEq, Int.reduceLE, ↓reduceIte, zCp, zHR Su [32, 42, 32] 2 rfl]
theorem pr44 (t : zJC) (h : t.Op = 44) (hok : ok t false = true) (hs : sz t ≤ 400) (ih : IH t) : Pr t := by
 obtain ⟨ho, hk, _⟩ := okD hok
 have K := Kids.mk' hs (by rw [h]; decide) hok ih
 rw [nd, h] at ho hk
 simp only [Bool.and_eq_true, Bool.or_eq_true] at ho hk
 have Su := K.sub
 have hsm := K.s
 have hm := K.m
 have hW := lo_LW ho.2.1
 have hS := hW.p
 have hp := prm_ok ho.2.2
 have hn : 1 ≤ t.L.length := by have := leT hk.1; omega
 have := zBf t
 have := Su.l [124] 0
 have := Su.q [32, 124, 32] 0 rfl
 have := hW.2
 have := pt_len hp.1
 have := pq_len hp.1 hp.2
 refine mkP t ([[100, 97, 116, 97]] ++ (pt t.Names ++ ([t.S] ++ ([[61]] ++ (ls [124] 0 t.L))))) ([100, 97, 116, 97] ++ 32 :: (pq t.Names ++ (t.S ++ 32 :: ([61] ++ 32 :: (qs' [32, 124, 32] 0 t.L))))) hs (G2 (G1 (zAe rfl)) (parG hp.2 (G2 (G1 hS) (G2 (G1 (zAe rfl)) (goodLs [124] [32, 124, 32] 0 (by decide) hGb t.L hn (Su.pc 0)))))) ?_ ?_ (fun l g hl hf => ?_) (fun g hf => ?_)
 ·first | omega | (simp only [LE]; omega)
 ·first | omega | (simp only [LE]; omega)
 ·rw [zAH]
  simp (disch := first | omega | (simp only [LE]; omega)) only [h, BB, CD, Int.reduceEq, Int.reduceLE, ↓reduceIte, zAI, zAT, zGt Su [124] 0, par_M hp.1]
 ·rw [zAN]
  simp (disch := first | omega | (simp only [LE]; omega)) only [h, BB, CD, Int.reduceEq, Int.reduceLE, ↓reduceIte, zAh, zHR Su [32, 124, 32] 0 rfl, rpar_M hp.1 hp.2]
theorem pr15 (t : zJC) (h : t.Op = 15) (hok : ok t false = true) (hs : sz t ≤ 400) (ih : IH t) : Pr t := by
 obtain ⟨ho, hk, _⟩ := okD hok
 have K := Kids.mk' hs (by rw [h]; decide) hok ih
 rw [nd, h] at ho hk
 simp only [Bool.and_eq_true, Bool.or_eq_true] at ho hk
 have Su := K.sub
 have hsm := K.s
 have hm := K.m
 rcases Nat.eq_zero_or_pos t.L.length with hn | hn
 ·have hL : t.L = [] := List.length_eq_zero_iff.1 hn
  have Su0 : Sub t [] := by rw [← hL]; exact Su
  have := zBf t
  refine mkP t [[40], [41]] [40, 41] hs (G5) ?_ ?_ (fun l g hl hf => ?_) (fun g hf => ?_)
  ·first | omega | (simp only [LE]; omega)
  ·first | omega | (simp only [LE]; omega)
  ·rw [zAH]
   simp (disch := first | omega | (simp only [LE]; omega)) only [h, BB, CD, Int.reduceEq, Int.reduceLE, ↓reduceIte, hL, QL, zGt Su0 [44] 0, ls]
  ·rw [zAN]
   simp (disch := first | omega | (simp only [LE]; omega)) only [h, BB, CD, Int.reduceEq, Int.reduceLE, ↓reduceIte, zAX, hL, QL, zHR Su0 [44, 32] 0 rfl, qs']
 ·have := zBf t
  have := Su.l [44] 0
  have := Su.q [44, 32] 0 rfl
  refine mkP t ([40] :: ((ls [44] 0 t.L) ++ [[41]])) (40 :: ((qs' [44, 32] 0 t.L) ++ [41])) hs (G3 (goodLs [44] [44, 32] 0 (by decide) hGc t.L hn (Su.pc 0))) ?_ ?_ (fun l g hl hf => ?_) (fun g hf => ?_)
  ·first | omega | (simp only [LE]; omega)
  ·first | omega | (simp only [LE]; omega)
  ·rw [zAH]
   simp (disch := first | omega | (simp only [LE]; omega)) only [h, BB, CD, Int.reduceEq, Int.reduceLE, ↓reduceIte, zGt Su [44] 0]
  ·rw [zAN]
   simp (disch := first | omega | (simp only [LE]; omega)) only [h, BB, CD, Int.reduceEq, Int.reduceLE, ↓reduceIte, zAX, zHR Su [44, 32] 0 rfl]
theorem pr27 (t : zJC) (h : t.Op = 27) (hok : ok t false = true) (hs : sz t ≤ 400) (ih : IH t) : Pr t := by
 obtain ⟨ho, hk, _⟩ := okD hok
 have K := Kids.mk' hs (by rw [h]; decide) hok ih
 rw [nd, h] at ho hk
 simp only [Bool.and_eq_true, Bool.or_eq_true] at ho hk
 have Su := K.sub
 have hsm := K.s
 have hm := K.m
 rcases Nat.eq_zero_or_pos t.L.length with hn | hn
 ·have hL : t.L = [] := List.length_eq_zero_iff.1 hn
  have Su0 : Sub t [] := by rw [← hL]; exact Su
  have := zBf t
  refine mkP t [[40], [41]] [40, 41] hs (G5) ?_ ?_ (fun l g hl hf => ?_) (fun g hf => ?_)
  ·first | omega | (simp only [LE]; omega)
  ·first | omega | (simp only [LE]; omega)
  ·rw [zAH]
   simp (disch := first | omega | (simp only [LE]; omega)) only [h, BB, CD, Int.reduceEq, Int.reduceLE, ↓reduceIte, zAI, hL, QL, zGt Su0 [44] 0, ls]
  ·rw [zAN]
   simp (disch := first | omega | (simp only [LE]; omega)) only [h, BB, CD, Int.reduceEq, Int.reduceLE, ↓reduceIte, zAX, hL, QL, zHR Su0 [44, 32] 0 rfl, qs']
 ·have := zBf t
  have := Su.l [44] 0
  have := Su.q [44, 32] 0 rfl
  refine mkP t ([40] :: ((ls [44] 0 t.L) ++ [[41]])) (40 :: ((qs' [44, 32] 0 t.L) ++ [41])) hs (G3 (goodLs [44] [44, 32] 0 (by decide) hGc t.L hn (Su.pc 0))) ?_ ?_ (fun l g hl hf => ?_) (fun g hf => ?_)
  ·first | omega | (simp only [LE]; omega)
  ·first | omega | (simp only [LE]; omega)
  ·rw [zAH]
   simp (disch := first | omega | (simp only [LE]; omega)) only [h, BB, CD, Int.reduceEq, Int.reduceLE, ↓reduceIte, zAI, zGt Su [44] 0]
  ·rw [zAN]
   simp (disch := first | omega | (simp only [LE]; omega)) only [h, BB, CD, Int.reduceEq, Int.reduceLE, ↓reduceIte, zAX, zHR Su [44, 32] 0 rfl]
theorem dec_head : ∀ (k n : Nat), n ≤ k → ∃ c r, Lib.decDigits n = c :: r ∧ 48 ≤ c.toNat ∧ c.toNat ≤ 57 := by
 intro k
 induction k with
 | zero =>
  intro n h
  rw [Lib.decDigits, dif_pos (by omega)]
  exact ⟨_, [], rfl, by rw [show n = 0 by omega]; decide, by rw [show n = 0 by omega]; decide⟩
 | succ k ih =>
  intro n h
  rw [Lib.decDigits]
  split
  ·exact ⟨_, [], rfl, by simp; omega, by simp; omega⟩
  ·obtain ⟨c, r, h1, h2⟩ := ih (n / 10) (by omega)
   exact ⟨c, r ++ [UInt8.ofNat (48 + n % 10)], by rw [h1]; rfl, h2⟩
theorem dec_pl (n : Nat) : plT (Lib.decDigits n) := by
 obtain ⟨c, r, h1, h2, h3⟩ := dec_head n n (Nat.le_refl _)
 rw [h1]
 refine ⟨?_, ?_, ?_, ?_⟩ <;> (intro e; injection e with e1 e2; subst e1; revert h2 h3; decide)
theorem itoa_M (n : Nat) (h : n < 10000000000000000) : zD0 (n : Int) = some (Lib.decDigits n) := by
 have := zIf n h
 have e : Lib.itoa (n : Int) = Lib.decDigits n := by unfold Lib.itoa; rw [if_neg (by omega)]; rfl
 rw [zD0, e, if_pos (by omega)]
theorem numW (n : Int) (h : 0 ≤ n) (h2 : n ≤ 4503599627370496) (w : List (List UInt8)) (hw : w.length ≤ 1500000) : zBe n ⟨w⟩ = some ⟨w ++ [Lib.decDigits n.natAbs]⟩ := by
 obtain ⟨m, rfl⟩ : ∃ m : Nat, n = m := ⟨n.toNat, by omega⟩
 rw [zBe, if_neg (show ¬ ltI (m : Int) 0 = true from fun h' => by have := ltT h'; omega), itoa_M m (by omega), zAg, put_M _ _ (by simp; omega)]; rfl
theorem numWn (n : Int) (h : n < 0) (h2 : -4503599627370496 ≤ n) (w : List (List UInt8)) (hw : w.length ≤ 1500000) : zBe n ⟨w⟩ = some ⟨w ++ [126] :: [Lib.decDigits n.natAbs]⟩ := by
 rw [zBe, if_pos (show ltI n 0 = true from decide_eq_true h), put_M _ _ (by simp; omega), zAg, chk64 (by omega) (by omega), zAg, show -n = (n.natAbs : Int) by omega, itoa_M _ (by omega), zAg, put_M _ _ (by simp; omega), zAg]
 simp
theorem numR (n : Int) (h : 0 ≤ n) (h2 : n ≤ 4503599627370496) (f : Nat) (hf : 20 ≤ f) : zDO f n = some (Lib.decDigits n.natAbs) := by
 obtain ⟨m, rfl⟩ : ∃ m : Nat, n = m := ⟨n.toNat, by omega⟩
 rw [zDO, if_neg (show ¬ ltI (m : Int) 0 = true from fun h' => by have := ltT h'; omega), digits_M 15 m (by omega) (by omega) f (by omega)]; rfl
theorem numRn (n : Int) (h : n < 0) (h2 : -4503599627370496 ≤ n) (f : Nat) (hf : 20 ≤ f) : zDO f n = some ([126, 32] ++ Lib.decDigits n.natAbs) := by
 have := zIf n.natAbs (by omega)
 rw [zDO, if_pos (show ltI n 0 = true from decide_eq_true h), chk64 (by omega) (by omega), zAg, show 0 - n = (n.natAbs : Int) by omega, digits_M 15 n.natAbs (by omega) (by omega) f (by omega), zAg, cat1 (by simp; omega)]; rfl
theorem pr21 (t : zJC) (h : t.Op = 21) (hok : ok t false = true) (hs : sz t ≤ 400) (ih : IH t) : Pr t := by
 obtain ⟨ho, hk, _⟩ := okD hok
 have K := Kids.mk' hs (by rw [h]; decide) hok ih
 rw [nd, h] at ho hk
 simp only [Bool.and_eq_true, Bool.or_eq_true] at ho hk
 have hm := K.m
 have b1 := leT ho.2.1
 have b2 := leT ho.2.2
 have hp : plT (Lib.decDigits t.N.natAbs) := dec_pl _
 have hd := zIf t.N.natAbs (by omega)
 have e1 := numW t.N (by omega) (by omega)
 have e2 := numR t.N (by omega) (by omega)
 have := zBf t
 refine mkP t [Lib.decDigits t.N.natAbs] (Lib.decDigits t.N.natAbs) hs (G1 hp) ?_ ?_ (fun l g hl hf => ?_) (fun g hf => ?_)
 ·first | omega | (simp only [LE]; omega)
 ·first | omega | (simp only [LE]; omega)
 ·rw [zAH]
  simp (disch := first | omega | (simp only [LE]; omega)) only [h, BB, CD, Int.reduceEq, Int.reduceLE, ↓reduceIte, e1]
 ·rw [zAN]
  simp (disch := first | omega | (simp only [LE]; omega)) only [h, BB, CD, Int.reduceEq, Int.reduceLE, ↓reduceIte, zAX, e2]
theorem pr13 (t : zJC) (h : t.Op = 13) (hok : ok t false = true) (hs : sz t ≤ 400) (ih : IH t) : Pr t := by
 obtain ⟨ho, hk, _⟩ := okD hok
 have K := Kids.mk' hs (by rw [h]; decide) hok ih
 rw [nd, h] at ho hk
 simp only [Bool.and_eq_true, Bool.or_eq_true] at ho hk
 have hm := K.m
 have b1 := leT ho.2.1
 have b2 := leT ho.2.2
 have hp : plT (Lib.decDigits t.N.natAbs) := dec_pl _
 have hd := zIf t.N.natAbs (by omega)
 by_cases hn : t.N < 0
 ·have e1 := numWn t.N hn (by omega)
  have e2 := numRn t.N hn (by omega)
  have := zBf t
  refine mkP t ([[126]] ++ [Lib.decDigits t.N.natAbs]) ([126] ++ 32 :: (Lib.decDigits t.N.natAbs)) hs (G2 (G1 (zAe rfl)) (G1 hp)) ?_ ?_ (fun l g hl hf => ?_) (fun g hf => ?_)
  ·first | omega | (simp only [LE]; omega)
  ·first | omega | (simp only [LE]; omega)
  ·rw [zAH]
   simp (disch := first | omega | (simp only [LE]; omega)) only [h, BB, CD, Int.reduceEq, Int.reduceLE, ↓reduceIte, e1]
  ·rw [zAN]
   simp (disch := first | omega | (simp only [LE]; omega)) only [h, BB, CD, Int.reduceEq, Int.reduceLE, ↓reduceIte, zAX, e2]
 ·have e1 := numW t.N (by omega) (by omega)
  have e2 := numR t.N (by omega) (by omega)
  have := zBf t
  refine mkP t [Lib.decDigits t.N.natAbs] (Lib.decDigits t.N.natAbs) hs (G1 hp) ?_ ?_ (fun l g hl hf => ?_) (fun g hf => ?_)
  ·first | omega | (simp only [LE]; omega)
  ·first | omega | (simp only [LE]; omega)
  ·rw [zAH]
   simp (disch := first | omega | (simp only [LE]; omega)) only [h, BB, CD, Int.reduceEq, Int.reduceLE, ↓reduceIte, e1]
  ·rw [zAN]
   simp (disch := first | omega | (simp only [LE]; omega)) only [h, BB, CD, Int.reduceEq, Int.reduceLE, ↓reduceIte, zAX, e2]
theorem pr14 (t : zJC) (h : t.Op = 14) (hok : ok t false = true) (hs : sz t ≤ 400) (ih : IH t) : Pr t := by
 obtain ⟨ho, hk, _⟩ := okD hok
 have K := Kids.mk' hs (by rw [h]; decide) hok ih
 rw [nd, h] at ho hk
 simp only [Bool.and_eq_true, Bool.or_eq_true] at ho hk
 have Su := K.sub
 have hsm := K.s
 have hm := K.m
 have hP := zFo ho.2
 rcases Nat.eq_zero_or_pos t.L.length with hn | hn
 ·have hL : t.L = [] := List.length_eq_zero_iff.1 hn
  have Su0 : Sub t [] := by rw [← hL]; exact Su
  have := zBf t
  have := hP.2.1
  have := hP.2.2
  refine mkP t [Lib.join t.Names [46]] (Lib.join t.Names [46]) hs (G1 hP.1) ?_ ?_ (fun l g hl hf => ?_) (fun g hf => ?_)
  ·first | omega | (simp only [LE]; omega)
  ·first | omega | (simp only [LE]; omega)
  ·rw [zAH]
   simp (disch := first | omega | (simp only [LE]; omega)) only [h, BB, CD, Int.reduceEq, Int.reduceLE, ↓reduceIte, ppath hP.2.1 hP.2.2, hL, QL, zGt Su0 [] 1, ls]
  ·rw [zAN]
   simp (disch := first | omega | (simp only [LE]; omega)) only [h, BB, CD, Int.reduceEq, Int.reduceLE, ↓reduceIte, zAX, zGS hP.2.1 hP.2.2, hL, QL]
 ·replace hn : t.L.length = 1 := by have := leT hk.2.1; omega
  obtain ⟨x, hL⟩ : ∃ x, t.L = [x] := by
   match hL : t.L, hn with
   | [x], _ => exact ⟨x, rfl⟩
  have hx := K.p x (by rw [hL]; simp)
  rw [hL] at hsm hm
  simp only [List.map_cons, List.map_nil, List.sum_cons, List.sum_nil, List.length_cons, List.length_nil] at hsm hm
  have cx := hx.pc (by omega) 1
  have Su1 : Sub t [x] := by rw [← hL]; exact Su
  have := zBf t
  have := hP.2.1
  have := hP.2.2
  have := cx.l1
  have := cx.l2
  have := Su1.l [] 1
  have := Su1.s
  refine mkP t ([Lib.join t.Names [46]] ++ PP x 1) ((Lib.join t.Names [46]) ++ 32 :: QP x 1) hs (G2 (G1 hP.1) (cx.g)) ?_ ?_ (fun l g hl hf => ?_) (fun g hf => ?_)
  ·first | omega | (simp only [LE]; omega)
  ·first | omega | (simp only [LE]; omega)
  ·rw [zAH]
   simp (disch := first | omega | (simp only [LE]; omega)) only [h, BB, CD, Int.reduceEq, Int.reduceLE, ↓reduceIte, ppath hP.2.1 hP.2.2, hL, QL, zGt Su1 [] 1, ls, lt, List.map_nil, List.flatten_nil]
  ·rw [zAN]
   simp (disch := first | omega | (simp only [LE]; omega)) only [h, BB, CD, Int.reduceEq, Int.reduceLE, ↓reduceIte, zAX, zGS hP.2.1 hP.2.2, hL, QL, cx.r]
theorem pr22 (t : zJC) (h : t.Op = 22) (hok : ok t false = true) (hs : sz t ≤ 400) (ih : IH t) : Pr t := by
 obtain ⟨ho, hk, _⟩ := okD hok
 have K := Kids.mk' hs (by rw [h]; decide) hok ih
 rw [nd, h] at ho hk
 simp only [Bool.and_eq_true, Bool.or_eq_true] at ho hk
 have hm := K.m
 have ho2 := plS_okc ho.2
 have hql := qs_len t.S
 have q1 : ∀ f, t.S.length + 1 ≤ f → zER f t.S = some (34 :: (qs t.S ++ [34]), 0) := fun f hf => by rw [Quote_M ho2.2 hf, ho2.1]; rfl
 have q2 : ∀ f, t.S.length + 1 ≤ f → zEP f t.S = some (34 :: (qs t.S ++ [34])) := fun f hf => RQuote_M t.S (by omega) hf
 have hp : plT (34 :: (qs t.S ++ [34])) := by
  refine ⟨?_, ?_, ?_, ?_⟩ <;> (intro e; injection e with e1; revert e1; decide)
 have := zBf t
 have := ho2.2
 refine mkP t [34 :: (qs t.S ++ [34])] (34 :: (qs t.S ++ [34])) hs (G1 hp) ?_ ?_ (fun l g hl hf => ?_) (fun g hf => ?_)
 ·first | omega | (simp only [LE]; omega)
 ·first | omega | (simp only [LE]; omega)
 ·rw [zAH]
  simp (disch := first | omega | (simp only [LE]; omega)) only [h, BB, CD, Int.reduceEq, Int.reduceLE, ↓reduceIte, q1]
 ·rw [zAN]
  simp (disch := first | omega | (simp only [LE]; omega)) only [h, BB, CD, Int.reduceEq, Int.reduceLE, ↓reduceIte, zAX, q2]
theorem pr25 (t : zJC) (h : t.Op = 25) (hok : ok t false = true) (hs : sz t ≤ 400) (ih : IH t) : Pr t := by
 obtain ⟨ho, hk, _⟩ := okD hok
 have K := Kids.mk' hs (by rw [h]; decide) hok ih
 rw [nd, h] at ho hk
 simp only [Bool.and_eq_true, Bool.or_eq_true] at ho hk
 obtain ⟨x, hL, hx, hzz, hm, hb⟩ := kid1 K hk
 have cx := hx.pc (by omega) 0
 cases hS0 : eqS t.S []
 ·have hl : loS t.S = true := by
   rcases ho.2 with h | h
   ·rw [h] at hS0; cases hS0
   ·exact h
  have hW := lo_LW hl
  have hS := hW.p
  have := zBf t
  have := hx.l1
  have := hx.l2
  have := hW.2
  refine mkP t ([[102, 110]] ++ ([t.S] ++ ([[61, 62]] ++ PT x))) ([102, 110] ++ 32 :: (t.S ++ 32 :: ([61, 62] ++ 32 :: QT x))) hs (G2 (G1 (zAe rfl)) (G2 (G1 hS) (G2 (G1 (zAe rfl)) (hx.g)))) ?_ ?_ (fun l g hl hf => ?_) (fun g hf => ?_)
  ·first | omega | (simp only [LE]; omega)
  ·first | omega | (simp only [LE]; omega)
  ·rw [zAH]
   simp (disch := first | omega | (simp only [LE]; omega)) only [h, BB, CD, Int.reduceEq, Int.reduceLE, ↓reduceIte, zAI, hL, cx.w, hS0]
  ·rw [zAN]
   simp (disch := first | omega | (simp only [LE]; omega)) only [h, BB, CD, Int.reduceEq, Int.reduceLE, ↓reduceIte, zAX, hL, hx.r, cx.r, hS0]
 ·have := zBf t
  have := hx.l1
  have := hx.l2
  refine mkP t ([[102, 110]] ++ ([[95]] ++ ([[61, 62]] ++ PT x))) ([102, 110] ++ 32 :: ([95] ++ 32 :: ([61, 62] ++ 32 :: QT x))) hs (G2 (G1 (zAe rfl)) (G2 (G1 (zAe rfl)) (G2 (G1 (zAe rfl)) (hx.g)))) ?_ ?_ (fun l g hl hf => ?_) (fun g hf => ?_)
  ·first | omega | (simp only [LE]; omega)
  ·first | omega | (simp only [LE]; omega)
  ·rw [zAH]
   simp (disch := first | omega | (simp only [LE]; omega)) only [h, BB, CD, Int.reduceEq, Int.reduceLE, ↓reduceIte, zAI, hL, cx.w, hS0]
  ·rw [zAN]
   simp (disch := first | omega | (simp only [LE]; omega)) only [h, BB, CD, Int.reduceEq, Int.reduceLE, ↓reduceIte, zAX, hL, hx.r, cx.r, hS0]
theorem if_loop (F : zJC → Int → zI9 → Option zI9) (t x y z : zJC) (hL : t.L = [x, y, z]) (a b c : List (List UInt8))
  (h1 : ∀ w : List (List UInt8), w.length + 40 * sz x ≤ 1000000 → F x 0 ⟨w⟩ = some ⟨w ++ a⟩) (h2 : ∀ w : List (List UInt8), w.length + 40 * sz y ≤ 1000000 → F y 0 ⟨w⟩ = some ⟨w ++ b⟩) (h3 : ∀ w : List (List UInt8), w.length + 40 * sz z ≤ 1000000 → F z 0 ⟨w⟩ = some ⟨w ++ c⟩)
  (w : List (List UInt8)) (k : Nat) (hk : 4 ≤ k) (ha : a.length ≤ 40 * sz x) (hb : b.length ≤ 40 * sz y) (hc : c.length ≤ 40 * sz z) (hw : w.length + 40 * sz x + 40 * sz y + 40 * sz z + 3 ≤ 1000000) :
  zAs F t [[105, 102], [116, 104, 101, 110], [101, 108, 115, 101]] k w 0 = some (w ++ [105, 102] :: (a ++ [116, 104, 101, 110] :: (b ++ [101, 108, 115, 101] :: c))) := by
 obtain ⟨g, rfl⟩ : ∃ g, k = g + 4 := ⟨k - 4, by omega⟩
 rw [zAs, if_pos if3.1, List.getElem?_cons_zero, zAg, put_M _ _ (by simp; omega), zAg, hL, List.getElem?_cons_zero, zAg, h1 _ (by simp; omega), zAg,
  zAs, if_pos if3.2.1, List.getElem?_cons_succ, List.getElem?_cons_zero, zAg, put_M _ _ (by simp; omega), zAg, hL, List.getElem?_cons_succ, List.getElem?_cons_zero, zAg, h2 _ (by simp; omega), zAg,
  zAs, if_pos if3.2.2.1, List.getElem?_cons_succ, List.getElem?_cons_succ, List.getElem?_cons_zero, zAg, put_M _ _ (by simp; omega), zAg, hL, List.getElem?_cons_succ, List.getElem?_cons_succ, List.getElem?_cons_zero, zAg, h3 _ (by simp; omega), zAg,
  zAs, if_neg (show ¬ _ = true from fun e => by rw [if3.2.2.2] at e; cases e)]
 simp
theorem pr28 (t : zJC) (h : t.Op = 28) (hok : ok t false = true) (hs : sz t ≤ 400) (ih : IH t) : Pr t := by
 obtain ⟨ho, hk, _⟩ := okD hok
 have K := Kids.mk' hs (by rw [h]; decide) hok ih
 rw [nd, h] at ho hk
 simp only [Bool.and_eq_true, Bool.or_eq_true] at ho hk
 obtain ⟨x, y, z, hL, hx, hy, hz, hzz, hm⟩ := kid3 K hk
 have hmx := K.mz x (by rw [hL]; simp)
 have hmy := K.mz y (by rw [hL]; simp)
 have hmz := K.mz z (by rw [hL]; simp)
 have cx := hx.pc (by omega) 0
 have cy := hy.pc (by omega) 0
 have cz := hz.pc (by omega) 0
 have := zBf t
 have := hx.l1
 have := hx.l2
 have := hy.l1
 have := hy.l2
 have := hz.l1
 have := hz.l2
 refine mkP t ([[105, 102]] ++ (PT x ++ ([[116, 104, 101, 110]] ++ (PT y ++ ([[101, 108, 115, 101]] ++ PT z))))) ([105, 102] ++ 32 :: (QT x ++ 32 :: ([116, 104, 101, 110] ++ 32 :: (QT y ++ 32 :: ([101, 108, 115, 101] ++ 32 :: QT z))))) hs (G2 (G1 (zAe rfl)) (G2 (hx.g) (G2 (G1 (zAe rfl)) (G2 (hy.g) (G2 (G1 (zAe rfl)) (hz.g)))))) ?_ ?_ (fun l g hl hf => ?_) (fun g hf => ?_)
 ·first | omega | (simp only [LE]; omega)
 ·first | omega | (simp only [LE]; omega)
 ·rw [zAH]
  simp (disch := first | omega | (simp only [LE]; omega)) only [h, BB, CD, Int.reduceEq, Int.reduceLE, ↓reduceIte, zAI, if_loop (zAK (g + 8)) t x y z hL _ _ _ (fun w hw => (cx.w w (g + 8) hw (by omega)).trans (by rw [PP0])) (fun w hw => (cy.w w (g + 8) hw (by omega)).trans (by rw [PP0])) (fun w hw => (cz.w w (g + 8) hw (by omega)).trans (by rw [PP0]))]
 ·rw [zAN]
  simp (disch := first | omega | (simp only [LE]; omega)) only [h, BB, CD, Int.reduceEq, Int.reduceLE, ↓reduceIte, zAX, hL, hx.r, cx.r, hy.r, cy.r, hz.r, cz.r]
theorem pr29 (t : zJC) (h : t.Op = 29) (hok : ok t false = true) (hs : sz t ≤ 400) (ih : IH t) : Pr t := by
 obtain ⟨ho, hk, _⟩ := okD hok
 have K := Kids.mk' hs (by rw [h]; decide) hok ih
 rw [nd, h] at ho hk
 simp only [Bool.and_eq_true, Bool.or_eq_true] at ho hk
 obtain ⟨x, l, hL, hn⟩ : ∃ x l, t.L = x :: l ∧ 1 ≤ l.length := by
  match hL : t.L, hk with
  | x :: y :: r, _ => exact ⟨x, y :: r, rfl, by simp⟩
  | [], hk => exact absurd hk (by simp)
  | [_], hk => exact absurd hk (by simp)
 have hsm := K.s
 have hm := K.m
 have hx := K.p x (by rw [hL]; simp)
 have hlt := len_sz t
 rw [hL] at hsm hm hlt
 simp only [List.map_cons, List.sum_cons, List.length_cons] at hsm hm hlt
 have Su : Sub t l := ⟨fun y hy => K.p y (by rw [hL]; simp [hy]), by omega, fun y hy => K.mz y (by rw [hL]; simp [hy]), by omega, hs⟩
 have cx := hx.pc (by omega) 0
 have := zBf t
 have := hx.l1
 have := hx.l2
 have := Su.l [124] 0
 have := Su.q [32, 124, 32] 0 rfl
 refine mkP t ([[99, 97, 115, 101]] ++ (PT x ++ ([[111, 102]] ++ (ls [124] 0 l ++ [[101, 110, 100]])))) ([99, 97, 115, 101] ++ 32 :: (QT x ++ 32 :: ([111, 102] ++ 32 :: (qs' [32, 124, 32] 0 l ++ 32 :: [101, 110, 100])))) hs (G2 (G1 (zAe rfl)) (G2 (hx.g) (G2 (G1 (zAe rfl)) (G2 (goodLs [124] [32, 124, 32] 0 (by decide) hGb l hn (Su.pc 0)) (G1 (zAe rfl)))))) ?_ ?_ (fun l g hl hf => ?_) (fun g hf => ?_)
 ·first | omega | (simp only [LE]; omega)
 ·first | omega | (simp only [LE]; omega)
 ·rw [zAH]
  simp (disch := first | omega | (simp only [LE]; omega)) only [h, BB, CD, Int.reduceEq, Int.reduceLE, ↓reduceIte, zAI, hL, sub1, cx.w, zGt Su [124] 0]
 ·rw [zAN]
  simp (disch := first | omega | (simp only [LE]; omega)) only [h, BB, CD, Int.reduceEq, Int.reduceLE, ↓reduceIte, zAX, hL, sub1, hx.r, cx.r, zHR Su [32, 124, 32] 0 rfl]
theorem pr31 (t : zJC) (h : t.Op = 31) (hok : ok t false = true) (hs : sz t ≤ 400) (ih : IH t) : Pr t := by
 obtain ⟨ho, hk, _⟩ := okD hok
 have K := Kids.mk' hs (by rw [h]; decide) hok ih
 rw [nd, h] at ho hk
 simp only [Bool.and_eq_true, Bool.or_eq_true] at ho hk
 have hn : 1 ≤ t.L.length := by have := leT hk.1; omega
 obtain ⟨y, y1, _, y3⟩ := last_of t.L hn
 obtain ⟨l, hl0⟩ : ∃ l, l = t.L.take (t.L.length - 1) := ⟨_, rfl⟩
 have e : (t.L.length : Int) - 1 = ((t.L.length - 1 : Nat) : Int) := by omega
 have e1 : subC t.L 0 ((t.L.length - 1 : Nat) : Int) = some l := by rw [subT t.L _ (by omega), hl0]
 have e2 : idx t.L ((t.L.length - 1 : Nat) : Int) = some y := by rw [idxN, y1]
 have e3 : chk .i64 ((t.L.length - 1 : Nat) : Int) = some ((t.L.length - 1 : Nat) : Int) := chk64 (by omega) (by have := len_sz t; omega)
 rw [← hl0] at y3
 have hsm := K.s
 have hm := K.m
 have hx := K.p y (by rw [y3]; simp)
 have hlt := len_sz t
 have hle : l.length ≤ t.L.length := by rw [hl0, List.length_take]; omega
 have hsp : (t.L.map sz).sum = (l.map sz).sum + sz y := by
  have := congrArg (fun l => (List.map sz l).sum) y3
  simpa using this
 have hmy := K.mz y (by rw [y3]; simp)
 have Su : Sub t l := ⟨fun z hz => K.p z (by rw [y3]; simp [hz]), by have := zBf y; omega, fun z hz => K.mz z (by rw [y3]; simp [hz]), by omega, hs⟩
 have cx := hx.pc (by omega) 0
 have := zBf t
 have := hx.l1
 have := hx.l2
 have := Su.l [] 0
 have := Su.w
 refine mkP t ([[108, 101, 116]] ++ (ls [] 0 l ++ ([[105, 110]] ++ (PT y ++ [[101, 110, 100]])))) ([108, 101, 116] ++ 32 :: (qw l ++ ([105, 110] ++ 32 :: (QT y ++ 32 :: [101, 110, 100])))) hs (G2 (G1 (zAe rfl)) (goodW l Su.p _ _ (G2 (G1 (zAe rfl)) (G2 (hx.g) (G1 (zAe rfl)))))) ?_ ?_ (fun l g hl hf => ?_) (fun g hf => ?_)
 ·first | omega | (simp only [LE]; omega)
 ·first | omega | (simp only [LE]; omega)
 ·rw [zAH]
  simp (disch := first | omega | (simp only [LE]; omega)) only [h, BB, CD, Int.reduceEq, Int.reduceLE, ↓reduceIte, zAI, e, e1, e2, e3, cx.w, zGt Su [] 0]
 ·rw [zAN]
  simp (disch := first | omega | (simp only [LE]; omega)) only [h, BB, CD, Int.reduceEq, Int.reduceLE, ↓reduceIte, e, e1, e2, e3, hx.r, zIn Su]
theorem pr87 (t : zJC) (h : t.Op = 87) (hok : ok t false = true) (hs : sz t ≤ 400) (ih : IH t) : Pr t := by
 obtain ⟨ho, hk, _⟩ := okD hok
 have K := Kids.mk' hs (by rw [h]; decide) hok ih
 rw [nd, h] at ho hk
 simp only [Bool.and_eq_true, Bool.or_eq_true] at ho hk
 have hn : 1 ≤ t.L.length := by have := leT hk.1; omega
 obtain ⟨y, y1, _, y3⟩ := last_of t.L hn
 obtain ⟨l, hl0⟩ : ∃ l, l = t.L.take (t.L.length - 1) := ⟨_, rfl⟩
 have e : (t.L.length : Int) - 1 = ((t.L.length - 1 : Nat) : Int) := by omega
 have e1 : subC t.L 0 ((t.L.length - 1 : Nat) : Int) = some l := by rw [subT t.L _ (by omega), hl0]
 have e2 : idx t.L ((t.L.length - 1 : Nat) : Int) = some y := by rw [idxN, y1]
 have e3 : chk .i64 ((t.L.length - 1 : Nat) : Int) = some ((t.L.length - 1 : Nat) : Int) := chk64 (by omega) (by have := len_sz t; omega)
 rw [← hl0] at y3
 have hsm := K.s
 have hm := K.m
 have hx := K.p y (by rw [y3]; simp)
 have hlt := len_sz t
 have hle : l.length ≤ t.L.length := by rw [hl0, List.length_take]; omega
 have hsp : (t.L.map sz).sum = (l.map sz).sum + sz y := by
  have := congrArg (fun l => (List.map sz l).sum) y3
  simpa using this
 have hmy := K.mz y (by rw [y3]; simp)
 have Su : Sub t l := ⟨fun z hz => K.p z (by rw [y3]; simp [hz]), by have := zBf y; omega, fun z hz => K.mz z (by rw [y3]; simp [hz]), by omega, hs⟩
 have cx := hx.pc (by omega) 0
 have := zBf t
 have := hx.l1
 have := hx.l2
 have := Su.l [] 0
 have := Su.w
 refine mkP t ([[108, 101, 116]] ++ (ls [] 0 l ++ ([[105, 110]] ++ (PT y ++ [[101, 110, 100]])))) ([108, 101, 116] ++ 32 :: (qw l ++ ([105, 110] ++ 32 :: (QT y ++ 32 :: [101, 110, 100])))) hs (G2 (G1 (zAe rfl)) (goodW l Su.p _ _ (G2 (G1 (zAe rfl)) (G2 (hx.g) (G1 (zAe rfl)))))) ?_ ?_ (fun l g hl hf => ?_) (fun g hf => ?_)
 ·first | omega | (simp only [LE]; omega)
 ·first | omega | (simp only [LE]; omega)
 ·rw [zAH]
  simp (disch := first | omega | (simp only [LE]; omega)) only [h, BB, CD, Int.reduceEq, Int.reduceLE, ↓reduceIte, zAI, e, e1, e2, e3, cx.w, zGt Su [] 0]
 ·rw [zAN]
  simp (disch := first | omega | (simp only [LE]; omega)) only [h, BB, CD, Int.reduceEq, Int.reduceLE, ↓reduceIte, e, e1, e2, e3, hx.r, zIn Su]
theorem pr34 (t : zJC) (h : t.Op = 34) (hok : ok t false = true) (hs : sz t ≤ 400) (ih : IH t) : Pr t := by
 obtain ⟨ho, hk, _⟩ := okD hok
 have K := Kids.mk' hs (by rw [h]; decide) hok ih
 rw [nd, h] at ho hk
 simp only [Bool.and_eq_true, Bool.or_eq_true] at ho hk
 have hP := zFo ho.2
 obtain ⟨x, hL, hx, hzz, hm, hb⟩ := kid1 K hk
 have cx := hx.pc (by omega) 2
 have hv : LV x = 2 := by
  have hx72 : x.Op = 72 := by rw [bx0] at hb; exact of_decide_eq_true hb
  unfold LV
  rw [zCm, hx72]; rfl
 have hp2 : PP x 2 = PT x := by unfold PP; rw [hv]; rfl
 have hq2 : QP x 2 = QT x := by unfold QP; rw [hv]; rfl
 have := zBf t
 have := cx.l1
 have := cx.l2
 have := hP.2.1
 have := hP.2.2
 have := hx.l2
 refine mkP t ([40] :: (([[112, 97, 99, 107]] ++ ([Lib.join t.Names [46]] ++ ([[58]] ++ PP x 2))) ++ [[41]])) (40 :: (([112, 97, 99, 107] ++ 32 :: ((Lib.join t.Names [46]) ++ 32 :: ([58] ++ 32 :: QP x 2))) ++ [41])) hs (G3 (G2 (G1 (zAe rfl)) (G2 (G1 hP.1) (G2 (G1 (zAe rfl)) (cx.g))))) ?_ ?_ (fun l g hl hf => ?_) (fun g hf => ?_)
 ·first | omega | (simp only [LE]; omega)
 ·first | omega | (simp only [LE]; omega)
 ·rw [zAH]
  simp (disch := first | omega | (simp only [LE]; omega)) only [h, BB, CD, Int.reduceEq, Int.reduceLE, ↓reduceIte, zAI, hL, cx.w, ppath hP.2.1 hP.2.2]
 ·rw [zAN]
  simp (disch := first | omega | (simp only [LE]; omega)) only [h, BB, CD, Int.reduceEq, Int.reduceLE, ↓reduceIte, zAX, hL, hx.r, hq2, zGS hP.2.1 hP.2.2]
theorem names_ok {l : List (List UInt8)} (h : l.all loS = true) : ∀ x ∈ l, LW x := fun x hx => lo_LW (List.all_eq_true.1 h x hx)
theorem pr42 (t : zJC) (h : t.Op = 42) (hok : ok t false = true) (hs : sz t ≤ 400) (ih : IH t) : Pr t := by
 obtain ⟨ho, hk, _⟩ := okD hok
 have K := Kids.mk' hs (by rw [h]; decide) hok ih
 rw [nd, h] at ho hk
 simp only [Bool.and_eq_true, Bool.or_eq_true] at ho hk
 have hW := lo_LW ho.2.1
 have hS := hW.p
 obtain ⟨x, hL, hx, hzz, hm, hb⟩ := kid1 K hk
 have cx := hx.pc (by omega) 0
 have hn1 : t.Names.length ≤ 9 := by have := leT ho.2.2.2.1; omega
 have hn2 : 1 ≤ t.Names.length := by have := leT ho.2.2.1; omega
 have hN := names_ok (l := t.Names) (by simpa using ho.2.2.2.2)
 obtain ⟨u, r, hNe⟩ : ∃ u r, t.Names = u :: r := by
  match hq : t.Names, hn2 with
  | u :: r, _ => exact ⟨u, r, rfl⟩
 rw [hNe] at hN hn1
 rw [List.length_cons] at hn1
 have hu := hN u (by simp)
 have hj := joinLen [32] (by simp) r (fun y hy => hN y (by simp [hy]))
 have hG := namG r [u] u (fun y hy => hN y (by simp [hy])) (G1 hu.p)
 have hJ : ∀ f, 20 ≤ f → zCi f (u :: r) [32] = some (u ++ Lib.joinTail [32] r) := fun f hf => by
  rw [zH8 (u :: r) [32] (by rw [Lib.join_cons, List.length_append]; have := hu.2; omega) (by rw [List.length_cons]; omega), Lib.join_cons]
 have := zBf t
 have := hu.2
 have := hx.l1
 have := hx.l2
 have := hW.2
 refine mkP t ([[102, 117, 110]] ++ ([t.S] ++ (([u] ++ r) ++ ([[61]] ++ PT x)))) ([102, 117, 110] ++ 32 :: (t.S ++ 32 :: ((u ++ Lib.joinTail [32] r) ++ 32 :: ([61] ++ 32 :: QT x)))) hs (G2 (G1 (zAe rfl)) (G2 (G1 hS) (G2 (hG) (G2 (G1 (zAe rfl)) (hx.g))))) ?_ ?_ (fun l g hl hf => ?_) (fun g hf => ?_)
 ·first | omega | (simp only [LE]; omega)
 ·first | omega | (simp only [LE]; omega)
 ·rw [zAH]
  simp (disch := first | omega | (simp only [LE]; omega)) only [h, BB, CD, Int.reduceEq, Int.reduceLE, ↓reduceIte, zAI, zAT, hL, cx.w, hNe]
 ·rw [zAN]
  simp (disch := first | omega | (simp only [LE]; omega)) only [h, BB, CD, Int.reduceEq, Int.reduceLE, ↓reduceIte, zAh, hL, hx.r, cx.r, hNe, hJ]
theorem pr43 (t : zJC) (h : t.Op = 43) (hok : ok t false = true) (hs : sz t ≤ 400) (ih : IH t) : Pr t := by
 obtain ⟨ho, hk, _⟩ := okD hok
 have K := Kids.mk' hs (by rw [h]; decide) hok ih
 rw [nd, h] at ho hk
 simp only [Bool.and_eq_true, Bool.or_eq_true] at ho hk
 have hW := lo_LW ho.2.1
 have hS := hW.p
 have hp := prm_ok ho.2.2
 obtain ⟨x, hL, hx, hzz, hm, hb⟩ := kid1 K hk
 have cx := hx.pc (by omega) 0
 have := zBf t
 have := hx.l1
 have := hx.l2
 have := hW.2
 have := pt_len hp.1
 have := pq_len hp.1 hp.2
 refine mkP t ([[116, 121, 112, 101]] ++ (pt t.Names ++ ([t.S] ++ ([[61]] ++ PT x)))) ([116, 121, 112, 101] ++ 32 :: (pq t.Names ++ (t.S ++ 32 :: ([61] ++ 32 :: QT x)))) hs (G2 (G1 (zAe rfl)) (parG hp.2 (G2 (G1 hS) (G2 (G1 (zAe rfl)) (hx.g))))) ?_ ?_ (fun l g hl hf => ?_) (fun g hf => ?_)
 ·first | omega | (simp only [LE]; omega)
 ·first | omega | (simp only [LE]; omega)
 ·rw [zAH]
  simp (disch := first | omega | (simp only [LE]; omega)) only [h, BB, CD, Int.reduceEq, Int.reduceLE, ↓reduceIte, zAI, zAT, hL, cx.w, par_M hp.1]
 ·rw [zAN]
  simp (disch := first | omega | (simp only [LE]; omega)) only [h, BB, CD, Int.reduceEq, Int.reduceLE, ↓reduceIte, zAh, hL, hx.r, cx.r, rpar_M hp.1 hp.2]
theorem pr62 (t : zJC) (h : t.Op = 62) (hok : ok t false = true) (hs : sz t ≤ 400) (ih : IH t) : Pr t := by
 obtain ⟨ho, hk, _⟩ := okD hok
 have K := Kids.mk' hs (by rw [h]; decide) hok ih
 rw [nd, h] at ho hk
 simp only [Bool.and_eq_true, Bool.or_eq_true] at ho hk
 have hW := lo_LW ho.2.1
 have hS := hW.p
 have hp := prm_ok ho.2.2
 have hm := K.m
 have := zBf t
 have := hW.2
 have := pt_len hp.1
 have := pq_len hp.1 hp.2
 refine mkP t ([[116, 121, 112, 101]] ++ (pt t.Names ++ [t.S])) ([116, 121, 112, 101] ++ 32 :: (pq t.Names ++ t.S)) hs (G2 (G1 (zAe rfl)) (parG hp.2 (G1 hS))) ?_ ?_ (fun l g hl hf => ?_) (fun g hf => ?_)
 ·first | omega | (simp only [LE]; omega)
 ·first | omega | (simp only [LE]; omega)
 ·rw [zAH]
  simp (disch := first | omega | (simp only [LE]; omega)) only [h, BB, CD, Int.reduceEq, Int.reduceLE, ↓reduceIte, zAI, zAT, zAY, par_M hp.1]
 ·rw [zAN]
  simp (disch := first | omega | (simp only [LE]; omega)) only [h, BB, CD, Int.reduceEq, Int.reduceLE, ↓reduceIte, zAh, rpar_M hp.1 hp.2]
theorem pr45 (t : zJC) (h : t.Op = 45) (hok : ok t false = true) (hs : sz t ≤ 400) (ih : IH t) : Pr t := by
 obtain ⟨ho, hk, _⟩ := okD hok
 have K := Kids.mk' hs (by rw [h]; decide) hok ih
 rw [nd, h] at ho hk
 simp only [Bool.and_eq_true, Bool.or_eq_true] at ho hk
 have Su := K.sub
 have hsm := K.s
 have hm := K.m
 have hW := up_LW ho.2
 have hS := hW.p
 rcases Nat.eq_zero_or_pos t.L.length with hn | hn
 ·have hL : t.L = [] := List.length_eq_zero_iff.1 hn
  have := zBf t
  have := hW.2
  refine mkP t [t.S] t.S hs (G1 hS) ?_ ?_ (fun l g hl hf => ?_) (fun g hf => ?_)
  ·first | omega | (simp only [LE]; omega)
  ·first | omega | (simp only [LE]; omega)
  ·rw [zAH]
   simp (disch := first | omega | (simp only [LE]; omega)) only [h, BB, CD, Int.reduceEq, Int.reduceLE, ↓reduceIte, zAI, zAT, hL, QL]
  ·rw [zAN]
   simp (disch := first | omega | (simp only [LE]; omega)) only [h, BB, CD, Int.reduceEq, Int.reduceLE, ↓reduceIte, zAh, hL, QL]
 ·replace hn : t.L.length = 1 := by have := leT hk.2.1; omega
  obtain ⟨x, hL⟩ : ∃ x, t.L = [x] := by
   match hL : t.L, hn with
   | [x], _ => exact ⟨x, rfl⟩
  have hx := K.p x (by rw [hL]; simp)
  rw [hL] at hsm hm
  simp only [List.map_cons, List.map_nil, List.sum_cons, List.sum_nil, List.length_cons, List.length_nil] at hsm hm
  have cx := hx.pc (by omega) 0
  have := zBf t
  have := hW.2
  have := hx.l1
  have := hx.l2
  refine mkP t ([t.S] ++ ([[111, 102]] ++ PT x)) (t.S ++ 32 :: ([111, 102] ++ 32 :: QT x)) hs (G2 (G1 hS) (G2 (G1 (zAe rfl)) (hx.g))) ?_ ?_ (fun l g hl hf => ?_) (fun g hf => ?_)
  ·first | omega | (simp only [LE]; omega)
  ·first | omega | (simp only [LE]; omega)
  ·rw [zAH]
   simp (disch := first | omega | (simp only [LE]; omega)) only [h, BB, CD, Int.reduceEq, Int.reduceLE, ↓reduceIte, zAI, zAT, hL, QL, cx.w]
  ·rw [zAN]
   simp (disch := first | omega | (simp only [LE]; omega)) only [h, BB, CD, Int.reduceEq, Int.reduceLE, ↓reduceIte, zAh, hL, QL, hx.r]
theorem pr66 (t : zJC) (h : t.Op = 66) (hok : ok t false = true) (hs : sz t ≤ 400) (ih : IH t) : Pr t := by
 obtain ⟨ho, hk, _⟩ := okD hok
 have K := Kids.mk' hs (by rw [h]; decide) hok ih
 rw [nd, h] at ho hk
 simp only [Bool.and_eq_true, Bool.or_eq_true] at ho hk
 have hP := zFo ho.2
 obtain ⟨x, hL⟩ : ∃ x, t.L = [x] := by
  match hL : t.L, hk with
  | [x], _ => exact ⟨x, rfl⟩
  | [], hk => exact absurd hk (by simp)
  | _ :: _ :: _, hk => exact absurd hk (by simp)
 have hsm := K.s
 have hm := K.m
 have hx := K.p x (by rw [hL]; simp)
 rw [hL] at hsm hm
 simp only [List.map_cons, List.map_nil, List.sum_cons, List.sum_nil, List.length_cons, List.length_nil] at hsm hm
 have cx := hx.pc (by omega) 0
 have := zBf t
 have := hx.l1
 have := hx.l2
 have := hP.2.1
 have := hP.2.2
 refine mkP t ([[115, 104, 97, 114, 105, 110, 103]] ++ ([[116, 121, 112, 101]] ++ ([Lib.join t.Names [46]] ++ ([[61]] ++ PT x)))) ([115, 104, 97, 114, 105, 110, 103] ++ 32 :: ([116, 121, 112, 101] ++ 32 :: ((Lib.join t.Names [46]) ++ 32 :: ([61] ++ 32 :: QT x)))) hs (G2 (G1 (zAe rfl)) (G2 (G1 (zAe rfl)) (G2 (G1 hP.1) (G2 (G1 (zAe rfl)) (hx.g))))) ?_ ?_ (fun l g hl hf => ?_) (fun g hf => ?_)
 ·first | omega | (simp only [LE]; omega)
 ·first | omega | (simp only [LE]; omega)
 ·rw [zAH]
  simp (disch := first | omega | (simp only [LE]; omega)) only [h, BB, CD, Int.reduceEq, Int.reduceLE, ↓reduceIte, zAI, zAT, zAY, hL, cx.w, ppath hP.2.1 hP.2.2]
 ·rw [zAN]
  simp (disch := first | omega | (simp only [LE]; omega)) only [h, BB, CD, Int.reduceEq, Int.reduceLE, ↓reduceIte, zAh, hL, hx.r, zGS hP.2.1 hP.2.2]
theorem pr71 (t : zJC) (h : t.Op = 71) (hok : ok t false = true) (hs : sz t ≤ 400) (ih : IH t) : Pr t := by
 obtain ⟨ho, hk, _⟩ := okD hok
 have K := Kids.mk' hs (by rw [h]; decide) hok ih
 rw [nd, h] at ho hk
 simp only [Bool.and_eq_true, Bool.or_eq_true] at ho hk
 have Su := K.sub
 have hsm := K.s
 have hm := K.m
 have := zBf t
 have := Su.l [] 0
 have := Su.w
 refine mkP t ([[115, 105, 103]] ++ (ls [] 0 t.L ++ [[101, 110, 100]])) ([115, 105, 103] ++ 32 :: (qw t.L ++ [101, 110, 100])) hs (G2 (G1 (zAe rfl)) (goodW t.L Su.p _ _ (G1 (zAe rfl)))) ?_ ?_ (fun l g hl hf => ?_) (fun g hf => ?_)
 ·first | omega | (simp only [LE]; omega)
 ·first | omega | (simp only [LE]; omega)
 ·rw [zAH]
  simp (disch := first | omega | (simp only [LE]; omega)) only [h, BB, CD, Int.reduceEq, Int.reduceLE, ↓reduceIte, zAI, zAT, zAY, zGt Su [] 0]
 ·rw [zAN]
  simp (disch := first | omega | (simp only [LE]; omega)) only [h, BB, CD, Int.reduceEq, Int.reduceLE, ↓reduceIte, zBb, zIn Su]
theorem pr81 (t : zJC) (h : t.Op = 81) (hok : ok t false = true) (hs : sz t ≤ 400) (ih : IH t) : Pr t := by
 obtain ⟨ho, hk, _⟩ := okD hok
 have K := Kids.mk' hs (by rw [h]; decide) hok ih
 rw [nd, h] at ho hk
 simp only [Bool.and_eq_true, Bool.or_eq_true] at ho hk
 have Su := K.sub
 have hsm := K.s
 have hm := K.m
 have := zBf t
 have := Su.l [] 0
 have := Su.w
 refine mkP t ([[115, 116, 114, 117, 99, 116]] ++ (ls [] 0 t.L ++ [[101, 110, 100]])) ([115, 116, 114, 117, 99, 116] ++ 32 :: (qw t.L ++ [101, 110, 100])) hs (G2 (G1 (zAe rfl)) (goodW t.L Su.p _ _ (G1 (zAe rfl)))) ?_ ?_ (fun l g hl hf => ?_) (fun g hf => ?_)
 ·first | omega | (simp only [LE]; omega)
 ·first | omega | (simp only [LE]; omega)
 ·rw [zAH]
  simp (disch := first | omega | (simp only [LE]; omega)) only [h, BB, CD, Int.reduceEq, Int.reduceLE, ↓reduceIte, zAI, zAT, zAY, zGt Su [] 0]
 ·rw [zAN]
  simp (disch := first | omega | (simp only [LE]; omega)) only [h, BB, CD, Int.reduceEq, Int.reduceLE, ↓reduceIte, zBb, zIn Su]
theorem pr73 (t : zJC) (h : t.Op = 73) (hok : ok t false = true) (hs : sz t ≤ 400) (ih : IH t) : Pr t := by
 obtain ⟨ho, hk, _⟩ := okD hok
 have K := Kids.mk' hs (by rw [h]; decide) hok ih
 rw [nd, h] at ho hk
 simp only [Bool.and_eq_true, Bool.or_eq_true] at ho hk
 have hW := up_LW ho.2.1
 have hS := hW.p
 obtain ⟨x, y, hL, hx, hy, hzz, hm⟩ := kid2 K hk
 have cx := hx.pc (by omega) 0
 have cy := hy.pc (by omega) 0
 by_cases hN : t.N = 1
 ·have := zBf t
  have := hx.l1
  have := hx.l2
  have := hy.l1
  have := hy.l2
  have := hW.2
  refine mkP t ([[102, 117, 110, 99, 116, 111, 114]] ++ (([40] :: (([t.S] ++ ([[58]] ++ PT x)) ++ [[41]])) ++ ([[61, 62]] ++ PT y))) ([102, 117, 110, 99, 116, 111, 114] ++ 32 :: ((40 :: ((t.S ++ 32 :: ([58] ++ 32 :: QT x)) ++ [41])) ++ 32 :: ([61, 62] ++ 32 :: QT y))) hs (G2 (G1 (zAe rfl)) (G2 (G3 (G2 (G1 hS) (G2 (G1 (zAe rfl)) (hx.g)))) (G2 (G1 (zAe rfl)) (hy.g)))) ?_ ?_ (fun l g hl hf => ?_) (fun g hf => ?_)
  ·first | omega | (simp only [LE]; omega)
  ·first | omega | (simp only [LE]; omega)
  ·rw [zAH]
   simp (disch := first | omega | (simp only [LE]; omega)) only [h, BB, CD, Int.reduceEq, Int.reduceLE, ↓reduceIte, zAI, zAT, zAY, zBN, hL, cx.w, cy.w, hN]
  ·rw [zAN]
   simp (disch := first | omega | (simp only [LE]; omega)) only [h, BB, CD, Int.reduceEq, Int.reduceLE, ↓reduceIte, zBb, zCj, hL, hx.r, cx.r, hy.r, cy.r, hN]
 ·have hN1 : decide (t.N = 1) = false := decide_eq_false hN
  have := zBf t
  have := hx.l1
  have := hx.l2
  have := hy.l1
  have := hy.l2
  have := hW.2
  refine mkP t ([[103, 101, 110, 101, 114, 97, 116, 105, 118, 101]] ++ (([40] :: (([t.S] ++ ([[58]] ++ PT x)) ++ [[41]])) ++ ([[61, 62]] ++ PT y))) ([103, 101, 110, 101, 114, 97, 116, 105, 118, 101] ++ 32 :: ((40 :: ((t.S ++ 32 :: ([58] ++ 32 :: QT x)) ++ [41])) ++ 32 :: ([61, 62] ++ 32 :: QT y))) hs (G2 (G1 (zAe rfl)) (G2 (G3 (G2 (G1 hS) (G2 (G1 (zAe rfl)) (hx.g)))) (G2 (G1 (zAe rfl)) (hy.g)))) ?_ ?_ (fun l g hl hf => ?_) (fun g hf => ?_)
  ·first | omega | (simp only [LE]; omega)
  ·first | omega | (simp only [LE]; omega)
  ·rw [zAH]
   simp (disch := first | omega | (simp only [LE]; omega)) only [h, BB, CD, Int.reduceEq, Int.reduceLE, ↓reduceIte, zAI, zAT, zAY, zBN, hL, cx.w, cy.w, hN1]
  ·rw [zAN]
   simp (disch := first | omega | (simp only [LE]; omega)) only [h, BB, CD, Int.reduceEq, Int.reduceLE, ↓reduceIte, zBb, zCj, hL, hx.r, cx.r, hy.r, cy.r, hN1]
theorem pr83 (t : zJC) (h : t.Op = 83) (hok : ok t false = true) (hs : sz t ≤ 400) (ih : IH t) : Pr t := by
 obtain ⟨ho, hk, _⟩ := okD hok
 have K := Kids.mk' hs (by rw [h]; decide) hok ih
 rw [nd, h] at ho hk
 simp only [Bool.and_eq_true, Bool.or_eq_true] at ho hk
 have hW := up_LW ho.2.1
 have hS := hW.p
 obtain ⟨x, y, hL, hx, hy, hzz, hm⟩ := kid2 K hk
 have cx := hx.pc (by omega) 0
 have cy := hy.pc (by omega) 0
 by_cases hN : t.N = 1
 ·have := zBf t
  have := hx.l1
  have := hx.l2
  have := hy.l1
  have := hy.l2
  have := hW.2
  refine mkP t ([[102, 117, 110, 99, 116, 111, 114]] ++ (([40] :: (([t.S] ++ ([[58]] ++ PT x)) ++ [[41]])) ++ ([[61, 62]] ++ PT y))) ([102, 117, 110, 99, 116, 111, 114] ++ 32 :: ((40 :: ((t.S ++ 32 :: ([58] ++ 32 :: QT x)) ++ [41])) ++ 32 :: ([61, 62] ++ 32 :: QT y))) hs (G2 (G1 (zAe rfl)) (G2 (G3 (G2 (G1 hS) (G2 (G1 (zAe rfl)) (hx.g)))) (G2 (G1 (zAe rfl)) (hy.g)))) ?_ ?_ (fun l g hl hf => ?_) (fun g hf => ?_)
  ·first | omega | (simp only [LE]; omega)
  ·first | omega | (simp only [LE]; omega)
  ·rw [zAH]
   simp (disch := first | omega | (simp only [LE]; omega)) only [h, BB, CD, Int.reduceEq, Int.reduceLE, ↓reduceIte, zAI, zAT, zAY, zBN, hL, cx.w, cy.w, hN]
  ·rw [zAN]
   simp (disch := first | omega | (simp only [LE]; omega)) only [h, BB, CD, Int.reduceEq, Int.reduceLE, ↓reduceIte, zBb, zCj, hL, hx.r, cx.r, hy.r, cy.r, hN]
 ·have hN1 : decide (t.N = 1) = false := decide_eq_false hN
  have := zBf t
  have := hx.l1
  have := hx.l2
  have := hy.l1
  have := hy.l2
  have := hW.2
  refine mkP t ([[103, 101, 110, 101, 114, 97, 116, 105, 118, 101]] ++ (([40] :: (([t.S] ++ ([[58]] ++ PT x)) ++ [[41]])) ++ ([[61, 62]] ++ PT y))) ([103, 101, 110, 101, 114, 97, 116, 105, 118, 101] ++ 32 :: ((40 :: ((t.S ++ 32 :: ([58] ++ 32 :: QT x)) ++ [41])) ++ 32 :: ([61, 62] ++ 32 :: QT y))) hs (G2 (G1 (zAe rfl)) (G2 (G3 (G2 (G1 hS) (G2 (G1 (zAe rfl)) (hx.g)))) (G2 (G1 (zAe rfl)) (hy.g)))) ?_ ?_ (fun l g hl hf => ?_) (fun g hf => ?_)
  ·first | omega | (simp only [LE]; omega)
  ·first | omega | (simp only [LE]; omega)
  ·rw [zAH]
   simp (disch := first | omega | (simp only [LE]; omega)) only [h, BB, CD, Int.reduceEq, Int.reduceLE, ↓reduceIte, zAI, zAT, zAY, zBN, hL, cx.w, cy.w, hN1]
  ·rw [zAN]
   simp (disch := first | omega | (simp only [LE]; omega)) only [h, BB, CD, Int.reduceEq, Int.reduceLE, ↓reduceIte, zBb, zCj, hL, hx.r, cx.r, hy.r, cy.r, hN1]
theorem pr32 (t : zJC) (h : t.Op = 32) (hok : ok t false = true) (hs : sz t ≤ 400) (ih : IH t) : Pr t := by
 obtain ⟨ho, hk, _⟩ := okD hok
 have K := Kids.mk' hs (by rw [h]; decide) hok ih
 rw [nd, h] at ho hk
 simp only [Bool.and_eq_true, Bool.or_eq_true] at ho hk
 have hN1 := leT ho.2.1
 have hN2 := leT ho.2.2
 rcases (by omega : t.N = 1 ∨ t.N = 2 ∨ t.N = 3 ∨ t.N = 4 ∨ t.N = 5 ∨ t.N = 6 ∨ t.N = 7 ∨ t.N = 8 ∨ t.N = 9 ∨ t.N = 10 ∨ t.N = 11 ∨ t.N = 12) with hN | hN | hN | hN | hN | hN | hN | hN | hN | hN | hN | hN
 ·replace hk : kids [3, 3] t.L = true := by rw [hN] at hk; exact hk
  obtain ⟨x, y, hL, hx, hy, hzz, hm⟩ := kid2 K hk
  have cx := hx.pc (by omega) 2
  have cy := hy.pc (by omega) 1
  have o1 : zAv 1 = some 1 := rfl
  have o2 : zBD 1 = some [111, 114, 101, 108, 115, 101] := rfl
  have o3 : zBc 1 = some [111, 114, 101, 108, 115, 101] := rfl
  have o4 : chk .i64 (1 + 1) = some 2 := rfl
  have := zBf t
  have := cx.l1
  have := cx.l2
  have := cy.l1
  have := cy.l2
  refine mkP t (PP x 2 ++ ([[111, 114, 101, 108, 115, 101]] ++ PP y 1)) (QP x 2 ++ 32 :: ([111, 114, 101, 108, 115, 101] ++ 32 :: QP y 1)) hs (G2 (cx.g) (G2 (G1 (zAe rfl)) (cy.g))) ?_ ?_ (fun l g hl hf => ?_) (fun g hf => ?_)
  ·first | omega | (simp only [LE]; omega)
  ·first | omega | (simp only [LE]; omega)
  ·rw [zAH]
   simp (disch := first | omega | (simp only [LE]; omega)) only [h, BB, CD, Int.reduceEq, Int.reduceLE, ↓reduceIte, zAI, hN, o1, o2, o4, zAd, hL, cx.w, cy.w]
  ·rw [zAN]
   simp (disch := first | omega | (simp only [LE]; omega)) only [h, BB, CD, Int.reduceEq, Int.reduceLE, ↓reduceIte, zAX, hN, zHE, o1, o3, o4, zBC, hL, cx.r, cy.r]
 ·replace hk : kids [3, 3] t.L = true := by rw [hN] at hk; exact hk
  obtain ⟨x, y, hL, hx, hy, hzz, hm⟩ := kid2 K hk
  have cx := hx.pc (by omega) 3
  have cy := hy.pc (by omega) 2
  have o1 : zAv 2 = some 2 := rfl
  have o2 : zBD 2 = some [97, 110, 100, 97, 108, 115, 111] := rfl
  have o3 : zBc 2 = some [97, 110, 100, 97, 108, 115, 111] := rfl
  have o4 : chk .i64 (2 + 1) = some 3 := rfl
  have := zBf t
  have := cx.l1
  have := cx.l2
  have := cy.l1
  have := cy.l2
  refine mkP t (PP x 3 ++ ([[97, 110, 100, 97, 108, 115, 111]] ++ PP y 2)) (QP x 3 ++ 32 :: ([97, 110, 100, 97, 108, 115, 111] ++ 32 :: QP y 2)) hs (G2 (cx.g) (G2 (G1 (zAe rfl)) (cy.g))) ?_ ?_ (fun l g hl hf => ?_) (fun g hf => ?_)
  ·first | omega | (simp only [LE]; omega)
  ·first | omega | (simp only [LE]; omega)
  ·rw [zAH]
   simp (disch := first | omega | (simp only [LE]; omega)) only [h, BB, CD, Int.reduceEq, Int.reduceLE, ↓reduceIte, zAI, hN, o1, o2, o4, zAd, hL, cx.w, cy.w]
  ·rw [zAN]
   simp (disch := first | omega | (simp only [LE]; omega)) only [h, BB, CD, Int.reduceEq, Int.reduceLE, ↓reduceIte, zAX, hN, zHE, o1, o3, o4, zBC, hL, cx.r, cy.r]
 ·replace hk : kids [3, 3] t.L = true := by rw [hN] at hk; exact hk
  obtain ⟨x, y, hL, hx, hy, hzz, hm⟩ := kid2 K hk
  have cx := hx.pc (by omega) 4
  have cy := hy.pc (by omega) 4
  have o1 : zAv 3 = some 3 := rfl
  have o2 : zBD 3 = some [61] := rfl
  have o3 : zBc 3 = some [61] := rfl
  have o4 : chk .i64 (3 + 1) = some 4 := rfl
  have := zBf t
  have := cx.l1
  have := cx.l2
  have := cy.l1
  have := cy.l2
  refine mkP t (PP x 4 ++ ([[61]] ++ PP y 4)) (QP x 4 ++ 32 :: ([61] ++ 32 :: QP y 4)) hs (G2 (cx.g) (G2 (G1 (zAe rfl)) (cy.g))) ?_ ?_ (fun l g hl hf => ?_) (fun g hf => ?_)
  ·first | omega | (simp only [LE]; omega)
  ·first | omega | (simp only [LE]; omega)
  ·rw [zAH]
   simp (disch := first | omega | (simp only [LE]; omega)) only [h, BB, CD, Int.reduceEq, Int.reduceLE, ↓reduceIte, zAI, hN, o1, o2, o4, zAd, hL, cx.w, cy.w]
  ·rw [zAN]
   simp (disch := first | omega | (simp only [LE]; omega)) only [h, BB, CD, Int.reduceEq, Int.reduceLE, ↓reduceIte, zAX, hN, zHE, o1, o3, o4, zBC, hL, cx.r, cy.r]
 ·replace hk : kids [3, 3] t.L = true := by rw [hN] at hk; exact hk
  obtain ⟨x, y, hL, hx, hy, hzz, hm⟩ := kid2 K hk
  have cx := hx.pc (by omega) 4
  have cy := hy.pc (by omega) 4
  have o1 : zAv 4 = some 3 := rfl
  have o2 : zBD 4 = some [60] := rfl
  have o3 : zBc 4 = some [60] := rfl
  have o4 : chk .i64 (3 + 1) = some 4 := rfl
  have := zBf t
  have := cx.l1
  have := cx.l2
  have := cy.l1
  have := cy.l2
  refine mkP t (PP x 4 ++ ([[60]] ++ PP y 4)) (QP x 4 ++ 32 :: ([60] ++ 32 :: QP y 4)) hs (G2 (cx.g) (G2 (G1 (zAe rfl)) (cy.g))) ?_ ?_ (fun l g hl hf => ?_) (fun g hf => ?_)
  ·first | omega | (simp only [LE]; omega)
  ·first | omega | (simp only [LE]; omega)
  ·rw [zAH]
   simp (disch := first | omega | (simp only [LE]; omega)) only [h, BB, CD, Int.reduceEq, Int.reduceLE, ↓reduceIte, zAI, hN, o1, o2, o4, zAd, hL, cx.w, cy.w]
  ·rw [zAN]
   simp (disch := first | omega | (simp only [LE]; omega)) only [h, BB, CD, Int.reduceEq, Int.reduceLE, ↓reduceIte, zAX, hN, zHE, o1, o3, o4, zBC, hL, cx.r, cy.r]
 ·replace hk : kids [3, 3] t.L = true := by rw [hN] at hk; exact hk
  obtain ⟨x, y, hL, hx, hy, hzz, hm⟩ := kid2 K hk
  have cx := hx.pc (by omega) 4
  have cy := hy.pc (by omega) 4
  have o1 : zAv 5 = some 3 := rfl
  have o2 : zBD 5 = some [60, 61] := rfl
  have o3 : zBc 5 = some [60, 61] := rfl
  have o4 : chk .i64 (3 + 1) = some 4 := rfl
  have := zBf t
  have := cx.l1
  have := cx.l2
  have := cy.l1
  have := cy.l2
  refine mkP t (PP x 4 ++ ([[60, 61]] ++ PP y 4)) (QP x 4 ++ 32 :: ([60, 61] ++ 32 :: QP y 4)) hs (G2 (cx.g) (G2 (G1 (zAe rfl)) (cy.g))) ?_ ?_ (fun l g hl hf => ?_) (fun g hf => ?_)
  ·first | omega | (simp only [LE]; omega)
  ·first | omega | (simp only [LE]; omega)
  ·rw [zAH]
   simp (disch := first | omega | (simp only [LE]; omega)) only [h, BB, CD, Int.reduceEq, Int.reduceLE, ↓reduceIte, zAI, hN, o1, o2, o4, zAd, hL, cx.w, cy.w]
  ·rw [zAN]
   simp (disch := first | omega | (simp only [LE]; omega)) only [h, BB, CD, Int.reduceEq, Int.reduceLE, ↓reduceIte, zAX, hN, zHE, o1, o3, o4, zBC, hL, cx.r, cy.r]
 ·replace hk : kids [3, 3] t.L = true := by rw [hN] at hk; exact hk
  obtain ⟨x, y, hL, hx, hy, hzz, hm⟩ := kid2 K hk
  have cx := hx.pc (by omega) 5
  have cy := hy.pc (by omega) 4
  have o1 : zAv 6 = some 4 := rfl
  have o2 : zBD 6 = some [94] := rfl
  have o3 : zBc 6 = some [94] := rfl
  have o4 : chk .i64 (4 + 1) = some 5 := rfl
  have := zBf t
  have := cx.l1
  have := cx.l2
  have := cy.l1
  have := cy.l2
  refine mkP t (PP x 5 ++ ([[94]] ++ PP y 4)) (QP x 5 ++ 32 :: ([94] ++ 32 :: QP y 4)) hs (G2 (cx.g) (G2 (G1 (zAe rfl)) (cy.g))) ?_ ?_ (fun l g hl hf => ?_) (fun g hf => ?_)
  ·first | omega | (simp only [LE]; omega)
  ·first | omega | (simp only [LE]; omega)
  ·rw [zAH]
   simp (disch := first | omega | (simp only [LE]; omega)) only [h, BB, CD, Int.reduceEq, Int.reduceLE, ↓reduceIte, zAI, hN, o1, o2, o4, zAd, hL, cx.w, cy.w]
  ·rw [zAN]
   simp (disch := first | omega | (simp only [LE]; omega)) only [h, BB, CD, Int.reduceEq, Int.reduceLE, ↓reduceIte, zAX, hN, zHE, o1, o3, o4, zBC, hL, cx.r, cy.r]
 ·replace hk : kids [3, 3] t.L = true := by rw [hN] at hk; exact hk
  obtain ⟨x, y, hL, hx, hy, hzz, hm⟩ := kid2 K hk
  have cx := hx.pc (by omega) 5
  have cy := hy.pc (by omega) 6
  have o1 : zAv 7 = some 5 := rfl
  have o2 : zBD 7 = some [43] := rfl
  have o3 : zBc 7 = some [43] := rfl
  have o4 : chk .i64 (5 + 1) = some 6 := rfl
  have := zBf t
  have := cx.l1
  have := cx.l2
  have := cy.l1
  have := cy.l2
  refine mkP t (PP x 5 ++ ([[43]] ++ PP y 6)) (QP x 5 ++ 32 :: ([43] ++ 32 :: QP y 6)) hs (G2 (cx.g) (G2 (G1 (zAe rfl)) (cy.g))) ?_ ?_ (fun l g hl hf => ?_) (fun g hf => ?_)
  ·first | omega | (simp only [LE]; omega)
  ·first | omega | (simp only [LE]; omega)
  ·rw [zAH]
   simp (disch := first | omega | (simp only [LE]; omega)) only [h, BB, CD, Int.reduceEq, Int.reduceLE, ↓reduceIte, zAI, hN, o1, o2, o4, zAd, hL, cx.w, cy.w]
  ·rw [zAN]
   simp (disch := first | omega | (simp only [LE]; omega)) only [h, BB, CD, Int.reduceEq, Int.reduceLE, ↓reduceIte, zAX, hN, zHE, o1, o3, o4, zBC, hL, cx.r, cy.r]
 ·replace hk : kids [3, 3] t.L = true := by rw [hN] at hk; exact hk
  obtain ⟨x, y, hL, hx, hy, hzz, hm⟩ := kid2 K hk
  have cx := hx.pc (by omega) 5
  have cy := hy.pc (by omega) 6
  have o1 : zAv 8 = some 5 := rfl
  have o2 : zBD 8 = some [45] := rfl
  have o3 : zBc 8 = some [45] := rfl
  have o4 : chk .i64 (5 + 1) = some 6 := rfl
  have := zBf t
  have := cx.l1
  have := cx.l2
  have := cy.l1
  have := cy.l2
  refine mkP t (PP x 5 ++ ([[45]] ++ PP y 6)) (QP x 5 ++ 32 :: ([45] ++ 32 :: QP y 6)) hs (G2 (cx.g) (G2 (G1 (zAe rfl)) (cy.g))) ?_ ?_ (fun l g hl hf => ?_) (fun g hf => ?_)
  ·first | omega | (simp only [LE]; omega)
  ·first | omega | (simp only [LE]; omega)
  ·rw [zAH]
   simp (disch := first | omega | (simp only [LE]; omega)) only [h, BB, CD, Int.reduceEq, Int.reduceLE, ↓reduceIte, zAI, hN, o1, o2, o4, zAd, hL, cx.w, cy.w]
  ·rw [zAN]
   simp (disch := first | omega | (simp only [LE]; omega)) only [h, BB, CD, Int.reduceEq, Int.reduceLE, ↓reduceIte, zAX, hN, zHE, o1, o3, o4, zBC, hL, cx.r, cy.r]
 ·replace hk : kids [3, 3] t.L = true := by rw [hN] at hk; exact hk
  obtain ⟨x, y, hL, hx, hy, hzz, hm⟩ := kid2 K hk
  have cx := hx.pc (by omega) 6
  have cy := hy.pc (by omega) 7
  have o1 : zAv 9 = some 6 := rfl
  have o2 : zBD 9 = some [42] := rfl
  have o3 : zBc 9 = some [42] := rfl
  have o4 : chk .i64 (6 + 1) = some 7 := rfl
  have := zBf t
  have := cx.l1
  have := cx.l2
  have := cy.l1
  have := cy.l2
  refine mkP t (PP x 6 ++ ([[42]] ++ PP y 7)) (QP x 6 ++ 32 :: ([42] ++ 32 :: QP y 7)) hs (G2 (cx.g) (G2 (G1 (zAe rfl)) (cy.g))) ?_ ?_ (fun l g hl hf => ?_) (fun g hf => ?_)
  ·first | omega | (simp only [LE]; omega)
  ·first | omega | (simp only [LE]; omega)
  ·rw [zAH]
   simp (disch := first | omega | (simp only [LE]; omega)) only [h, BB, CD, Int.reduceEq, Int.reduceLE, ↓reduceIte, zAI, hN, o1, o2, o4, zAd, hL, cx.w, cy.w]
  ·rw [zAN]
   simp (disch := first | omega | (simp only [LE]; omega)) only [h, BB, CD, Int.reduceEq, Int.reduceLE, ↓reduceIte, zAX, hN, zHE, o1, o3, o4, zBC, hL, cx.r, cy.r]
 ·replace hk : kids [3, 3] t.L = true := by rw [hN] at hk; exact hk
  obtain ⟨x, y, hL, hx, hy, hzz, hm⟩ := kid2 K hk
  have cx := hx.pc (by omega) 6
  have cy := hy.pc (by omega) 7
  have o1 : zAv 10 = some 6 := rfl
  have o2 : zBD 10 = some [100, 105, 118] := rfl
  have o3 : zBc 10 = some [100, 105, 118] := rfl
  have o4 : chk .i64 (6 + 1) = some 7 := rfl
  have := zBf t
  have := cx.l1
  have := cx.l2
  have := cy.l1
  have := cy.l2
  refine mkP t (PP x 6 ++ ([[100, 105, 118]] ++ PP y 7)) (QP x 6 ++ 32 :: ([100, 105, 118] ++ 32 :: QP y 7)) hs (G2 (cx.g) (G2 (G1 (zAe rfl)) (cy.g))) ?_ ?_ (fun l g hl hf => ?_) (fun g hf => ?_)
  ·first | omega | (simp only [LE]; omega)
  ·first | omega | (simp only [LE]; omega)
  ·rw [zAH]
   simp (disch := first | omega | (simp only [LE]; omega)) only [h, BB, CD, Int.reduceEq, Int.reduceLE, ↓reduceIte, zAI, hN, o1, o2, o4, zAd, hL, cx.w, cy.w]
  ·rw [zAN]
   simp (disch := first | omega | (simp only [LE]; omega)) only [h, BB, CD, Int.reduceEq, Int.reduceLE, ↓reduceIte, zAX, hN, zHE, o1, o3, o4, zBC, hL, cx.r, cy.r]
 ·replace hk : kids [3, 3] t.L = true := by rw [hN] at hk; exact hk
  obtain ⟨x, y, hL, hx, hy, hzz, hm⟩ := kid2 K hk
  have cx := hx.pc (by omega) 6
  have cy := hy.pc (by omega) 7
  have o1 : zAv 11 = some 6 := rfl
  have o2 : zBD 11 = some [109, 111, 100] := rfl
  have o3 : zBc 11 = some [109, 111, 100] := rfl
  have o4 : chk .i64 (6 + 1) = some 7 := rfl
  have := zBf t
  have := cx.l1
  have := cx.l2
  have := cy.l1
  have := cy.l2
  refine mkP t (PP x 6 ++ ([[109, 111, 100]] ++ PP y 7)) (QP x 6 ++ 32 :: ([109, 111, 100] ++ 32 :: QP y 7)) hs (G2 (cx.g) (G2 (G1 (zAe rfl)) (cy.g))) ?_ ?_ (fun l g hl hf => ?_) (fun g hf => ?_)
  ·first | omega | (simp only [LE]; omega)
  ·first | omega | (simp only [LE]; omega)
  ·rw [zAH]
   simp (disch := first | omega | (simp only [LE]; omega)) only [h, BB, CD, Int.reduceEq, Int.reduceLE, ↓reduceIte, zAI, hN, o1, o2, o4, zAd, hL, cx.w, cy.w]
  ·rw [zAN]
   simp (disch := first | omega | (simp only [LE]; omega)) only [h, BB, CD, Int.reduceEq, Int.reduceLE, ↓reduceIte, zAX, hN, zHE, o1, o3, o4, zBC, hL, cx.r, cy.r]
 ·replace hk : kids [3] t.L = true := by rw [hN] at hk; exact hk
  obtain ⟨x, hL, hx, hzz, hm, hb⟩ := kid1 K hk
  have cx := hx.pc (by omega) 7
  have o1 : zAv 12 = some 7 := rfl
  have o2 : zBD 12 = some [126] := rfl
  have o3 : zBc 12 = some [126] := rfl
  have o4 : chk .i64 (7 + 1) = some 8 := rfl
  have := zBf t
  have := cx.l1
  have := cx.l2
  refine mkP t ([[126]] ++ PP x 7) ([126] ++ 32 :: QP x 7) hs (G2 (G1 (zAe rfl)) (cx.g)) ?_ ?_ (fun l g hl hf => ?_) (fun g hf => ?_)
  ·first | omega | (simp only [LE]; omega)
  ·first | omega | (simp only [LE]; omega)
  ·rw [zAH]
   simp (disch := first | omega | (simp only [LE]; omega)) only [h, BB, CD, Int.reduceEq, Int.reduceLE, ↓reduceIte, zAI, hN, o1, o2, o4, zAd, hL, cx.w]
  ·rw [zAN]
   simp (disch := first | omega | (simp only [LE]; omega)) only [h, BB, CD, Int.reduceEq, Int.reduceLE, ↓reduceIte, zAX, hN, zHE, o1, o3, o4, zBC, hL, cx.r]
theorem pr74 (t : zJC) (h : t.Op = 74) (hok : ok t false = true) (hs : sz t ≤ 400) (ih : IH t) : Pr t := by
 obtain ⟨ho, hk, hc⟩ := okD hok
 rw [nd, h] at ho hk
 simp only [Bool.and_eq_true] at ho
 obtain ⟨x, y, hL, hk2⟩ : ∃ x y, t.L = [x, y] ∧ (bl 6 x.Op && eqI y.Op 43) = true := by
  match hL : t.L, hk with
  | [x, y], hk => simp only [hL] at hk; exact ⟨x, y, rfl, hk⟩
  | [], hk => simp only [hL] at hk; cases hk
  | [_], hk => simp only [hL] at hk; cases hk
  | _ :: _ :: _ :: _, hk => simp only [hL] at hk; cases hk
 rw [Bool.and_eq_true] at hk2
 rw [show eqI t.Op 74 = true from decide_eq_true h] at hc
 have hz := sz_eq t
 have hmt := mz_eq t
 rw [hL] at hz hmt hc
 simp only [List.map_cons, List.map_nil, List.sum_cons, List.sum_nil, List.length_cons, List.length_nil] at hz hmt
 have hx : Pr x := ih x (by omega) (by
  rw [ok_w x (fun e => by rw [e] at hk2; exact absurd hk2.1 (by decide)) false true]
  exact hc x (by simp))
 have hy := hc y (by simp)
 rw [ok_eq, Bool.and_eq_true, Bool.and_eq_true, nd, of_decide_eq_true hk2.2] at hy
 obtain ⟨hyo, hyk, hyc⟩ := hy
 simp only [Bool.and_eq_true] at hyo hyk
 have hp := prm_ok hyo.2.2
 obtain ⟨z, hyL, hzk⟩ : ∃ z, y.L = [z] ∧ ok z false = true := by
  match hq : y.L, hyk with
  | [z], _ =>
   rw [hq] at hyc
   simp only [List.all_cons, List.all_nil, Bool.and_true, show eqI (43 : Int) 74 = false from rfl] at hyc
   exact ⟨z, rfl, hyc⟩
  | [], hyk => cases hyk
  | u :: v :: r, hyk => simp [kids] at hyk
 have hzy := sz_eq y
 have hmy := mz_eq y
 rw [hyL] at hzy hmy
 simp only [List.map_cons, List.map_nil, List.sum_cons, List.sum_nil, List.length_cons, List.length_nil] at hzy hmy
 have hz' : Pr z := ih z (by omega) hzk
 have cx := hx.pc (by omega) 1
 have cz := hz'.pc (by omega) 0
 have hP := zFo ho.2
 have := zBf t
 have := cx.l1
 have := cx.l2
 have := hz'.l1
 have := hz'.l2
 have := pt_len hp.1
 have := pq_len hp.1 hp.2
 have := hP.2.1
 have := hP.2.2
 refine mkP t (PP x 1 ++ ([[119, 105, 116, 104]] ++ ([[116, 121, 112, 101]] ++ (pt y.Names ++ ([Lib.join t.Names [46]] ++ ([[61]] ++ PT z)))))) (QP x 1 ++ 32 :: ([119, 105, 116, 104] ++ 32 :: ([116, 121, 112, 101] ++ 32 :: (pq y.Names ++ ((Lib.join t.Names [46]) ++ 32 :: ([61] ++ 32 :: QT z)))))) hs (G2 (cx.g) (G2 (G1 (zAe rfl)) (G2 (G1 (zAe rfl)) (parG hp.2 (G2 (G1 hP.1) (G2 (G1 (zAe rfl)) (hz'.g))))))) ?_ ?_ (fun l g hl hf => ?_) (fun g hf => ?_)
 ·first | omega | (simp only [LE]; omega)
 ·first | omega | (simp only [LE]; omega)
 ·rw [zAH]
  simp (disch := first | omega | (simp only [LE]; omega)) only [h, BB, CD, Int.reduceEq, Int.reduceLE, ↓reduceIte, zAI, zAT, zAY, hL, hyL, cx.w, cz.w, par_M hp.1, ppath hP.2.1 hP.2.2]
 ·rw [zAN]
  simp (disch := first | omega | (simp only [LE]; omega)) only [h, BB, CD, Int.reduceEq, Int.reduceLE, ↓reduceIte, zBb, hL, hyL, cx.r, hz'.r, rpar_M hp.1 hp.2, zGS hP.2.1 hP.2.2]
theorem pr_all : ∀ (n : Nat) (t : zJC), sz t ≤ n → sz t ≤ 400 → ok t false = true → Pr t := by
 intro n
 induction n with
 | zero => intro t h; have := zBf t; omega
 | succ n ih =>
  intro t hn hs hok
  have hI : IH t := fun x hx h => ih x (by omega) (by omega) h
  refine ops_or t.Op _ (fun h => pr1 t h hok hs hI) (fun h => pr2 t h hok hs hI) (fun h => pr3 t h hok hs hI) (fun h => pr4 t h hok hs hI) (fun h => pr5 t h hok hs hI) (fun h => pr11 t h hok hs hI) (fun h => pr12 t h hok hs hI) (fun h => pr13 t h hok hs hI) (fun h => pr14 t h hok hs hI) (fun h => pr15 t h hok hs hI) (fun h => pr21 t h hok hs hI) (fun h => pr22 t h hok hs hI) (fun h => pr23 t h hok hs hI) (fun h => pr24 t h hok hs hI) (fun h => pr25 t h hok hs hI) (fun h => pr26 t h hok hs hI) (fun h => pr27 t h hok hs hI) (fun h => pr28 t h hok hs hI) (fun h => pr29 t h hok hs hI) (fun h => pr30 t h hok hs hI) (fun h => pr31 t h hok hs hI) (fun h => pr32 t h hok hs hI) (fun h => pr33 t h hok hs hI) (fun h => pr34 t h hok hs hI) (fun h => pr41 t h hok hs hI) (fun h => pr42 t h hok hs hI) (fun h => pr43 t h hok hs hI) (fun h => pr44 t h hok hs hI) (fun h => pr45 t h hok hs hI) (fun h => pr46 t h hok hs hI) (fun h => pr47 t h hok hs hI) (fun h => pr48 t h hok hs hI) (fun h => pr49 t h hok hs hI) (fun h => pr50 t h hok hs hI) (fun h => pr61 t h hok hs hI) (fun h => pr62 t h hok hs hI) (fun h => pr63 t h hok hs hI) (fun h => pr64 t h hok hs hI) (fun h => pr65 t h hok hs hI) (fun h => pr66 t h hok hs hI) (fun h => pr71 t h hok hs hI) (fun h => pr72 t h hok hs hI) (fun h => pr73 t h hok hs hI) (fun h => pr74 t h hok hs hI) (fun h => pr81 t h hok hs hI) (fun h => pr82 t h hok hs hI) (fun h => pr83 t h hok hs hI) (fun h => pr84 t h hok hs hI) (fun h => pr85 t h hok hs hI) (fun h => pr86 t h hok hs hI) (fun h => pr87 t h hok hs hI) (fun h => pr88 t h hok hs hI) ?_
  intros
  exfalso
  have h2 := (okD hok).2.1
  have n0 : (nd t false).2 = false := by
   unfold nd
   split <;> first | contradiction | rfl
  rw [n0] at h2; cases h2
theorem pr_vl {c : Int} {t : zJC} (hs : sz t ≤ 400) (h : vl c t = true) : Pr t := by
 unfold vl at h
 simp only [Bool.and_eq_true] at h
 exact pr_all (sz t) t (Nat.le_refl _) hs h.2.2.2
def bnd (s : List UInt8) : List UInt8 × Int := if ltI 16384 (s.length : Int) = true then ([], 5) else (s, 0)
def pv (c : Int) (t : zJC) : List UInt8 × Int := if vl c t = true then bnd (QT t) else ([], 1)
theorem print_M {t : zJC} (p : Pr t) (hs : sz t ≤ 400) {fuel : Nat} (hf : mz t + 20000 ≤ fuel) : zDh fuel t = some (QT t) := by
 have h1 := p.l1; have h2 := p.l2
 rw [zDh, p.w [] fuel (by rw [List.length_nil]; omega) (by omega), zAg, List.nil_append, text_M7 (w := ⟨PT t⟩) p.g (by omega) (by show (PT t).length + 1 ≤ fuel; omega)]; rfl
theorem zHg (s : List UInt8) : zCd s = some (bnd s) := by
 rw [zCd]; unfold bnd; cases ltI 16384 (s.length : Int) <;> rfl
theorem Print_M (c : Int) (t : zJC) (hs : sz t ≤ 400) {fuel : Nat} (hf : mz t + 20000 ≤ fuel) : zDE fuel c t = some (pv c t) := by
 rw [zDE, vl_M c t hs (by omega), zAg]
 unfold pv
 cases h : vl c t
 ·rfl
 ·simp only [Bool.not_true, Bool.false_eq_true, if_false, if_true]
  rw [print_M (pr_vl hs h) hs hf, zAg, zHg]; rfl
theorem Print_R (c : Int) (t : zJC) (hs : sz t ≤ 400) {fuel : Nat} (hf : mz t + 20000 ≤ fuel) : zFP fuel c t = some (pv c t) := by
 rw [zFP, vl_R c t hs (by omega), zAg]
 unfold pv
 cases h : vl c t
 ·rfl
 ·simp only [Bool.not_true, Bool.false_eq_true, if_false, if_true]
  rw [(pr_vl hs h).r fuel (by omega), zAg]
  unfold bnd
  cases ltI 16384 ((QT t).length : Int) <;> rfl
def ex1 : zJC := ⟨32, 9, [], [], [⟨32, 7, [], [], [⟨21, 1, [], [], []⟩, ⟨21, 2, [], [], []⟩]⟩, ⟨32, 12, [], [], [⟨23, 0, [], [[120]], []⟩]⟩]⟩
def ex2 : zJC := ⟨81, 0, [], [], [⟨41, 0, [120], [], [⟨21, 1, [], [], []⟩]⟩, ⟨46, 0, [77], [], [⟨81, 0, [], [], []⟩]⟩]⟩
theorem ex1_z : sz ex1 ≤ 400 ∧ mz ex1 ≤ 2000 := by simp [ex1, sz_eq, mz_eq]
theorem ex2_z : sz ex2 ≤ 400 ∧ mz ex2 ≤ 2000 := by simp [ex2, sz_eq, mz_eq]
theorem ex1_v : pv 3 ex1 = ([40, 49, 32, 43, 32, 50, 41, 32, 42, 32, 126, 32, 120], 0) := by
 have h1 := Print_R 3 ex1 ex1_z.1 (fuel := 23000) (by have := ex1_z.2; omega)
 have h2 : zFP 23000 3 ex1 = some ([40, 49, 32, 43, 32, 50, 41, 32, 42, 32, 126, 32, 120], 0) := by kernel_rfl
 rw [h1] at h2; injection h2
theorem ex2_v : pv 7 ex2 = ([115, 116, 114, 117, 99, 116, 32, 118, 97, 108, 32, 120, 32, 61, 32, 49, 32, 115, 116, 114, 117, 99, 116, 117, 114, 101, 32, 77, 32, 61, 32, 115, 116, 114, 117, 99, 116, 32, 101, 110, 100, 32, 101, 110, 100], 0) := by
 have h1 := Print_R 7 ex2 ex2_z.1 (fuel := 23000) (by have := ex2_z.2; omega)
 have h2 : zFP 23000 7 ex2 = some ([115, 116, 114, 117, 99, 116, 32, 118, 97, 108, 32, 120, 32, 61, 32, 49, 32, 115, 116, 114, 117, 99, 116, 117, 114, 101, 32, 77, 32, 61, 32, 115, 116, 114, 117, 99, 116, 32, 101, 110, 100, 32, 101, 110, 100], 0) := by kernel_rfl
 rw [h1] at h2; injection h2
theorem awake_M {fuel : Nat} (hf : 30000 ≤ fuel) : zE4 fuel = some true := by
 have h1 : zDE fuel 3 ex1 = _ := Print_M 3 ex1 ex1_z.1 (by have := ex1_z.2; omega)
 have h2 : zDE fuel 7 ex2 = _ := Print_M 7 ex2 ex2_z.1 (by have := ex2_z.2; omega)
 rw [zE4]
 simp only [zD2, zFb, zFm, zAg]
 rw [ex1_v] at h1
 rw [ex2_v] at h2
 unfold ex1 at h1
 unfold ex2 at h2
 rw [h1, zAg, h2, zAg]
 rfl
def rg (l : List zJC) : Bool := leI (l.length : Int) 1000 && l.all (fun x => vl 4 x)
structure Few (l : List zJC) (fuel : Nat) : Prop where
 n : l.length ≤ 300 ∨ 1000 < l.length
 m : l.length ≤ 1100
 z : ∀ x ∈ l, sz x ≤ 300
 f : ∀ x ∈ l, mz x + 20000 ≤ fuel
 g : 30000 ≤ fuel
theorem right_loop (l : List zJC) {fuel : Nat} (h : Few l fuel) : ∀ (n i k : Nat), i + n = l.length → n + 1 ≤ k → ∃ o, zAn fuel l k i = some o ∧ (((l.drop i).all (fun x => vl 4 x) = false ∧ ∃ j : Nat, o = .inl (j : Int)) ∨ ((l.drop i).all (fun x => vl 4 x) = true ∧ o = .inr ())) := by
 intro n
 induction n with
 | zero =>
  intro i k hi hk
  obtain ⟨g, rfl⟩ : ∃ g, k = g + 1 := ⟨k - 1, by omega⟩
  rw [zAn, if_neg (ltN (by omega)), List.drop_eq_nil_of_le (by omega)]
  exact ⟨_, rfl, .inr ⟨rfl, rfl⟩⟩
 | succ n ih =>
  intro i k hi hk
  obtain ⟨g, rfl⟩ : ∃ g, k = g + 1 := ⟨k - 1, by omega⟩
  have hx : l[i]? = some l[i] := List.getElem?_eq_getElem (by omega)
  have hm : l[i] ∈ l := List.getElem_mem (by omega)
  have hd : l.drop i = l[i] :: l.drop (i + 1) := List.drop_eq_getElem_cons (by omega)
  rw [zAn, if_pos (ltP (by omega)), hx, hd, List.all_cons]
  generalize l[i] = x at hm
  have hz := h.z x hm
  have hf := h.f x hm
  rw [zAg, zEI, vl_M 4 x (by omega) (by omega), zAg, zAg]
  cases vl 4 x
  ·exact ⟨_, rfl, .inl ⟨rfl, i, rfl⟩⟩
  ·exact ih (i + 1) g (by omega) (by omega)
theorem right_M (l : List zJC) {fuel : Nat} (h : Few l fuel) : zDg fuel l = some (rg l) := by
 obtain ⟨o, o1, o2⟩ := right_loop l h l.length 0 fuel (by omega) (by have := h.m; have := h.g; omega)
 rw [List.drop_zero] at o2
 rw [zDg, zBl, zBx, o1]
 unfold rg
 cases leI (l.length : Int) 1000
 ·rfl
 ·rcases o2 with ⟨h1, j, rfl⟩ | ⟨h1, rfl⟩
  ·rw [h1]
   simp only [zAg, Sum.elim_inl, if_true]
   rw [show leI 0 (j : Int) = true from decide_eq_true (by omega)]; rfl
  ·rw [h1]; rfl
def dc (l : List zJC) : List UInt8 := (l.map (fun x => QT x ++ [10])).flatten
theorem dc_len (l : List zJC) (h : ∀ x ∈ l, Pr x) (hz : ∀ x ∈ l, sz x ≤ 300) : (dc l).length ≤ 12000000 * l.length := by
 unfold dc
 induction l with
 | nil => simp
 | cons x r ih =>
  have h1 := (h x (by simp)).l2
  have h0 := hz x (by simp)
  have h2 := ih (fun y hy => h y (by simp [hy])) (fun y hy => hz y (by simp [hy]))
  rw [List.map_cons, List.flatten_cons, List.length_append, List.length_append, List.length_singleton, List.length_cons]
  omega
theorem rg_pr {l : List zJC} {fuel : Nat} (h : Few l fuel) (hr : rg l = true) : l.length ≤ 300 ∧ ∀ x ∈ l, Pr x := by
 unfold rg at hr
 rw [Bool.and_eq_true] at hr
 have h1 := leT hr.1
 refine ⟨by have := h.n; omega, fun x hx => pr_vl (by have := h.z x hx; omega) (List.all_eq_true.1 hr.2 x hx)⟩
theorem declared_loop (l : List zJC) {fuel : Nat} (h : Few l fuel) (hp : ∀ x ∈ l, Pr x) : ∀ (n i k : Nat) (b : List UInt8), i + n = l.length → n + 1 ≤ k → b.length + (dc (l.drop i)).length ≤ 100000000000 → zBv fuel l k b i = some (b ++ dc (l.drop i)) := by
 intro n
 induction n with
 | zero =>
  intro i k b hi hk hb
  obtain ⟨g, rfl⟩ : ∃ g, k = g + 1 := ⟨k - 1, by omega⟩
  rw [zBv, if_neg (ltN (by omega)), List.drop_eq_nil_of_le (by omega)]
  simp [dc]
 | succ n ih =>
  intro i k b hi hk hb
  obtain ⟨g, rfl⟩ : ∃ g, k = g + 1 := ⟨k - 1, by omega⟩
  have hx : l[i]? = some l[i] := List.getElem?_eq_getElem (by omega)
  have hm : l[i] ∈ l := List.getElem_mem (by omega)
  have hd : l.drop i = l[i] :: l.drop (i + 1) := List.drop_eq_getElem_cons (by omega)
  rw [zBv, if_pos (ltP (by omega)), hx]
  rw [hd] at hb ⊢
  generalize l[i] = x at hm hb
  have e : dc (x :: l.drop (i + 1)) = QT x ++ [10] ++ dc (l.drop (i + 1)) := by simp [dc]
  rw [e, List.length_append] at hb
  have hz := h.z x hm
  have hf := h.f x hm
  have hq : (QT x ++ [10]).length = (QT x).length + 1 := by rw [List.length_append, List.length_singleton]
  rw [zAg, print_M (hp x hm) (by omega) (by omega), zAg, cat1 (by rw [List.length_singleton]; omega), zAg, ws_M (by omega), zAg, ih (i + 1) g _ (by omega) (by omega) (by rw [List.length_append]; omega), e]
  simp
theorem declared_M (l : List zJC) {fuel : Nat} (h : Few l fuel) (hr : rg l = true) : zDH fuel l = some (dc l) := by
 obtain ⟨h1, h2⟩ := rg_pr h hr
 have h3 := dc_len l h2 h.z
 rw [zDH, declared_loop l h h2 l.length 0 fuel [] (by omega) (by have := h.g; omega) (by rw [List.drop_zero, List.length_nil]; omega), List.drop_zero]
 rfl
def dv (l : List zJC) : List UInt8 × Int := if rg l = true then bnd (dc l) else ([], 1)
theorem Decls_M (l : List zJC) {fuel : Nat} (h : Few l fuel) : zEE fuel l = some (dv l) := by
 rw [zEE, right_M l h, zAg]
 unfold dv
 cases hr : rg l
 ·rfl
 ·simp only [Bool.not_true, Bool.false_eq_true, if_false, if_true]
  rw [declared_M l h hr, zAg, zHg]; rfl
theorem rdecls1 (l : List zJC) {fuel : Nat} (h : Few l fuel) : zCU fuel l fuel 0 = some (if l.all (fun x => vl 4 x) = true then .inr () else .inl ([], 1)) := by
 rw [loopQ l (fun x => vl 4 x) (zCU fuel l) ([], 1) (fun k i x hx hi => by
  have hm := List.mem_of_getElem? hx
  have hz := h.z x hm
  have hf := h.f x hm
  rw [zCU, if_pos (ltP hi), hx, zAg, vl_R 4 x (by omega) (by omega), zAg]
  cases vl 4 x <;> rfl) (fun k i hi => by
  rw [zCU, if_neg (ltN (by omega))]) 0 fuel (by omega) (by have := h.m; have := h.g; omega), List.drop_zero]
theorem rdecls2 (l : List zJC) {fuel : Nat} (h : Few l fuel) (hp : ∀ x ∈ l, Pr x) : ∀ (n i k : Nat) (b : List UInt8), i + n = l.length → n + 1 ≤ k → b.length + (dc (l.drop i)).length ≤ 100000000000 → ∃ o, zCq fuel l k b i = some o ∧ (o = b ++ dc (l.drop i) ∨ 16384 < o.length ∧ o.length ≤ b.length + (dc (l.drop i)).length) := by
 intro n
 induction n with
 | zero =>
  intro i k b hi hk hb
  obtain ⟨g, rfl⟩ : ∃ g, k = g + 1 := ⟨k - 1, by omega⟩
  rw [zCq, show ltI ((i : Nat) : Int) (l.length : Int) = false from decide_eq_false (by omega), List.drop_eq_nil_of_le (by omega)]
  exact ⟨b, rfl, .inl (by simp [dc])⟩
 | succ n ih =>
  intro i k b hi hk hb
  obtain ⟨g, rfl⟩ : ∃ g, k = g + 1 := ⟨k - 1, by omega⟩
  have hx : l[i]? = some l[i] := List.getElem?_eq_getElem (by omega)
  have hm : l[i] ∈ l := List.getElem_mem (by omega)
  have hd : l.drop i = l[i] :: l.drop (i + 1) := List.drop_eq_getElem_cons (by omega)
  rw [zCq, show ltI ((i : Nat) : Int) (l.length : Int) = true from ltP (by omega), Bool.true_and]
  by_cases hs : b.length ≤ 16384
  ·rw [if_pos (show leI (b.length : Int) 16384 = true from decide_eq_true (by omega)), hx]
   rw [hd] at hb ⊢
   generalize l[i] = x at hm hb
   have e : dc (x :: l.drop (i + 1)) = QT x ++ ([10] ++ dc (l.drop (i + 1))) := by simp [dc]
   rw [e] at hb ⊢
   simp only [List.length_append] at hb ⊢
   have hf := h.f x hm
   rw [zAg, (hp x hm).r fuel (by omega), zAg, cat1 (by omega), zAg, cat1 (by rw [List.length_append]; omega), zAg]
   obtain ⟨o, o1, o2⟩ := ih (i + 1) g (b ++ QT x ++ [10]) (by omega) (by omega) (by simp only [List.length_append]; omega)
   refine ⟨o, o1, ?_⟩
   rcases o2 with rfl | ⟨h1, h2⟩
   ·exact .inl (by simp)
   ·exact .inr ⟨h1, by simp only [List.length_append] at h2; omega⟩
  ·rw [if_neg (show ¬ leI (b.length : Int) 16384 = true from fun h' => hs (by have := leT h'; omega))]
   exact ⟨b, rfl, .inr ⟨by omega, by omega⟩⟩
theorem Decls_R (l : List zJC) {fuel : Nat} (h : Few l fuel) : zEO fuel l = some (dv l) := by
 rw [zEO, rdecls1 l h]
 unfold dv
 by_cases h1 : 1000 < l.length
 ·rw [if_pos (show ltI 1000 (l.length : Int) = true from decide_eq_true (by omega))]
  have : rg l = false := by unfold rg; rw [show leI (l.length : Int) 1000 = false from decide_eq_false (by omega)]; rfl
  rw [this]; rfl
 ·rw [if_neg (show ¬ ltI 1000 (l.length : Int) = true from fun h' => h1 (by have := ltT h'; omega))]
  have hr : rg l = l.all (fun x => vl 4 x) := by unfold rg; rw [show leI (l.length : Int) 1000 = true from decide_eq_true (by omega)]; rfl
  cases hv : l.all (fun x => vl 4 x)
  ·rw [hr, hv]; rfl
  ·rw [hv] at hr
   obtain ⟨h2, h3⟩ := rg_pr h hr
   have h4 := dc_len l h3 h.z
   obtain ⟨o, o1, o2⟩ := rdecls2 l h h3 l.length 0 fuel [] (by omega) (by have := h.g; omega) (by rw [List.drop_zero, List.length_nil]; omega)
   rw [List.drop_zero] at o2
   rw [hr]
   simp only [if_true, zAg, Sum.elim_inr]
   rw [o1, zAg]
   unfold bnd
   rcases o2 with rfl | ⟨h5, h6⟩
   ·rw [List.nil_append]
    cases ltI 16384 ((dc l).length : Int) <;> rfl
   ·rw [List.length_nil] at h6
    rw [if_pos (show ltI 16384 (o.length : Int) = true from decide_eq_true (by omega)), if_pos (show ltI 16384 ((dc l).length : Int) = true from decide_eq_true (by omega))]
def impP (s : List (List UInt8)) (x : List UInt8) : Bool := nm caB x && !s.any (fun w => decide (w = x))
def imp (l : List (List UInt8)) : Bool := allP impP [] l
theorem imp_LW : ∀ (l s : List (List UInt8)), allP impP s l = true → ∀ x ∈ l, LW x
 | [], _, _, x, hx => by cases hx
 | y :: r, s, h, x, hx => by
  rw [allP, Bool.and_eq_true] at h
  unfold impP at h
  rcases List.mem_cons.1 hx with rfl | hx
  ·have h1 := h.1
   rw [Bool.and_eq_true] at h1
   exact up_LW h1.1
  ·exact imp_LW r _ (by unfold impP; exact h.2) x hx
def vu (u : zJB) : Bool := nm caB u.Name && (leI (u.Imports.length : Int) 16 && (rg u.Decls && imp u.Imports))
def iw (l : List (List UInt8)) : List UInt8 := if l = [] then [] else [105, 109, 112, 111, 114, 116, 32] ++ Lib.join l [44, 32] ++ [59, 10]
def uv (u : zJB) : List UInt8 × Int := if vu u = true then bnd (iw u.Imports ++ dc u.Decls) else ([], 1)
theorem imps_M (u : zJB) {fuel : Nat} (hf : u.Imports.length + 50 ≤ fuel) : zCO fuel u fuel 0 = some (if imp u.Imports = true then .inr () else .inl ([], 1)) := by
 rw [loopA u.Imports impP (zCO fuel u) ([], 1) (fun k i x hx hi => by
  rw [zCO, if_pos (ltP hi), hx]
  simp only [zAg, zG1 x (show 30 ≤ fuel by omega)]
  rw [subT _ i (by omega)]
  simp only [zAg, zIC (u.Imports.take i) x (show (u.Imports.take i).length + 1 ≤ fuel by rw [List.length_take]; omega)]
  unfold impP
  cases nm caB x
  ·rfl
  ·cases (u.Imports.take i).any (fun w => decide (w = x)) <;> rfl) (fun k i hi => by
  rw [zCO, if_neg (ltN (by omega))]) u.Imports.length 0 fuel (by omega) (by omega), List.drop_zero, List.take_zero]
 rfl
theorem imps_R (u : zJB) {fuel : Nat} (hf : u.Imports.length + 50 ≤ fuel) : zBs fuel u fuel 0 = some (if imp u.Imports = true then .inr () else .inl false) := by
 rw [loopA u.Imports impP (zBs fuel u) false (fun k i x hx hi => by
  rw [zBs, if_pos (ltP hi), hx]
  simp only [zAg, Upper_M x (show 30 ≤ fuel by omega)]
  rw [loopQ (u.Imports.take i) (fun y => !eqS y x) (zB7 u i x) false (fun k j y hy hj => by
   rw [List.length_take] at hj
   rw [zB7, if_pos (ltP (show j < i by omega)), show u.Imports[j]? = some y by rw [← hy, List.getElem?_take, if_pos (by omega)]]
   simp only [zAg]
   cases eqS y x <;> rfl) (fun k j hj => by
   rw [List.length_take] at hj
   rw [zB7, if_neg (ltN (by omega))]) 0 fuel (by omega) (by rw [List.length_take]; omega), List.drop_zero]
  have e : (u.Imports.take i).all (fun y => !eqS y x) = !(u.Imports.take i).any (fun w => decide (w = x)) := by
   rw [← zFC]; simp [eqS]
  rw [e]
  unfold impP
  cases nm caB x
  ·rfl
  ·cases (u.Imports.take i).any (fun w => decide (w = x)) <;> rfl) (fun k i hi => by
  rw [zBs, if_neg (ltN (by omega))]) u.Imports.length 0 fuel (by omega) (by omega), List.drop_zero, List.take_zero]
 rfl
theorem decls_R3 (u : zJB) {fuel : Nat} (h : Few u.Decls fuel) : zBr fuel u fuel 0 = some (if u.Decls.all (fun x => vl 4 x) = true then .inr () else .inl false) := by
 rw [loopQ u.Decls (fun x => vl 4 x) (zBr fuel u) false (fun k i x hx hi => by
  have hm := List.mem_of_getElem? hx
  have hz := h.z x hm
  have hf := h.f x hm
  rw [zBr, if_pos (ltP hi), hx, zAg, vl_R 4 x (by omega) (by omega), zAg]
  cases vl 4 x <;> rfl) (fun k i hi => by
  rw [zBr, if_neg (ltN (by omega))]) 0 fuel (by omega) (by have := h.m; have := h.g; omega), List.drop_zero]
theorem valid_R (u : zJB) {fuel : Nat} (h : Few u.Decls fuel) (hf : u.Imports.length + 50 ≤ fuel) : zDe fuel u = some (vu u) := by
 rw [zDe, Upper_M u.Name (show 30 ≤ fuel by omega), imps_R u hf, decls_R3 u h, show ltI 16 (u.Imports.length : Int) = !leI (u.Imports.length : Int) 16 from ltNot _ _, show ltI 1000 (u.Decls.length : Int) = !leI (u.Decls.length : Int) 1000 from ltNot _ _]
 unfold vu rg
 cases nm caB u.Name <;> cases leI (u.Imports.length : Int) 16 <;> cases leI (u.Decls.length : Int) 1000 <;> cases u.Decls.all (fun x => vl 4 x) <;> cases imp u.Imports <;> rfl
theorem iw_len {l : List (List UInt8)} (h : l.length ≤ 16) (hl : ∀ x ∈ l, LW x) : (Lib.join l [44, 32]).length ≤ 1000 := by
 match l, h, hl with
 | [], _, _ => simp [Lib.join_nil]
 | x :: r, h, hl =>
  have h1 := (hl x (by simp)).2
  have h2 := joinLen [44, 32] (by simp) r (fun y hy => hl y (by simp [hy]))
  rw [Lib.join_cons, List.length_append]
  rw [List.length_cons] at h
  omega
theorem bnd_long {s : List UInt8} (h : 16384 < s.length) : bnd s = ([], 5) := by unfold bnd; rw [if_pos (show ltI 16384 (s.length : Int) = true from decide_eq_true (by omega))]
theorem bnd_short {s : List UInt8} (h : ¬ 16384 < s.length) : bnd s = (s, 0) := by unfold bnd; rw [if_neg (show ¬ ltI 16384 (s.length : Int) = true from fun h' => h (by have := ltT h'; omega))]
theorem vu_parts {u : zJB} (h : vu u = true) : u.Imports.length ≤ 16 ∧ rg u.Decls = true ∧ ∀ x ∈ u.Imports, LW x := by
 unfold vu at h
 simp only [Bool.and_eq_true] at h
 exact ⟨by have := leT h.2.1; omega, h.2.2.1, imp_LW _ _ h.2.2.2⟩
theorem Unit_M (u : zJB) {fuel : Nat} (h : Few u.Decls fuel) (hf : u.Imports.length + 50 ≤ fuel) : zEj fuel u = some (uv u) := by
 rw [zEj, zG1 u.Name (show 30 ≤ fuel by omega), right_M _ h, imps_M u hf, show ltI 16 (u.Imports.length : Int) = !leI (u.Imports.length : Int) 16 from ltNot _ _]
 unfold uv
 cases hv : vu u
 ·unfold vu at hv
  revert hv
  cases nm caB u.Name <;> cases leI (u.Imports.length : Int) 16 <;> cases rg u.Decls <;> cases imp u.Imports <;> intro hv <;> first | rfl | cases hv
 ·obtain ⟨h1, h2, h3⟩ := vu_parts hv
  obtain ⟨h4, h5⟩ := rg_pr h h2
  have h6 := dc_len _ h5 h.z
  have h7 := iw_len h1 h3
  unfold vu at hv
  simp only [Bool.and_eq_true] at hv
  rw [hv.1, hv.2.1, hv.2.2.1, hv.2.2.2, declared_M _ h h2]
  simp only [Bool.not_true, Bool.false_eq_true, if_false, if_true, zAg, Sum.elim_inr]
  by_cases hi : u.Imports = []
  ·rw [hi, if_neg (by decide), zHg]
   unfold iw
   rw [if_pos rfl, List.nil_append]; rfl
  ·have hl : 0 < u.Imports.length := List.length_pos_iff.2 hi
   rw [if_pos (show ltI 0 (u.Imports.length : Int) = true from decide_eq_true (by omega)), zDz, if_pos ⟨by omega, by omega⟩, zAg, cat1 (by simp; omega), zAg, cat1 (by simp; omega), zAg, cat1 (by simp; omega), zAg, zHg]
   unfold iw
   rw [if_neg hi]; rfl
theorem Unit_R (u : zJB) {fuel : Nat} (h : Few u.Decls fuel) (hf : u.Imports.length + 50 ≤ fuel) : zFE fuel u = some (uv u) := by
 rw [zFE, valid_R u h hf, Decls_R _ h, zAg]
 unfold uv
 cases hv : vu u
 ·rfl
 ·obtain ⟨h1, h2, h3⟩ := vu_parts hv
  obtain ⟨h4, h5⟩ := rg_pr h h2
  have h6 := dc_len _ h5 h.z
  have h7 := iw_len h1 h3
  simp only [Bool.not_true, Bool.false_eq_true, if_false, if_true, zAg]
  unfold dv
  rw [if_pos h2]
  by_cases hd : 16384 < (dc u.Decls).length
  ·rw [bnd_long hd, bnd_long (by rw [List.length_append]; omega)]; rfl
  ·rw [bnd_short hd, show eqI (0 : Int) 0 = true from rfl]
   simp only [Bool.not_true, Bool.false_eq_true, if_false]
   by_cases hi : u.Imports = []
   ·unfold iw
    rw [hi, if_neg (by decide), if_pos rfl, List.nil_append]
    unfold bnd
    cases ltI 16384 ((dc u.Decls).length : Int) <;> rfl
   ·have hl : 0 < u.Imports.length := List.length_pos_iff.2 hi
    rw [if_pos (show ltI 0 (u.Imports.length : Int) = true from decide_eq_true (by omega)), zH8 u.Imports [44, 32] (by omega) (by omega), zAg, cat1 (by simp; omega), zAg, cat1 (by simp; omega), zAg, cat1 (by simp; omega), zAg]
    unfold iw
    rw [if_neg hi]
    unfold bnd
    cases ltI 16384 (([105, 109, 112, 111, 114, 116, 32] ++ Lib.join u.Imports [44, 32] ++ [59, 10] ++ dc u.Decls).length : Int) <;> rfl
theorem zHd (u : zJB) : ∃ fuel, zDb fuel u = some true := by
 obtain ⟨F, hF⟩ : ∃ F, F = (u.Decls.map mz).sum + u.Decls.length + u.Imports.length + 30000 := ⟨_, rfl⟩
 refine ⟨F, ?_⟩
 have hmz : ∀ x ∈ u.Decls, mz x + 20000 ≤ F := fun x hx => by have := sum_mem mz u.Decls x hx; omega
 obtain ⟨b, b1, b2⟩ := great_M u.Decls (fuel := F) (fun x hx => by have := hmz x hx; omega) (by omega)
 rw [zDb, awake_M (by omega), zAg, b1]
 cases b
 ·obtain ⟨c1, c2, c3⟩ := b2 rfl
  have h : Few u.Decls F := ⟨c1, c2, fun x hx => (c3 x hx).1, hmz, by omega⟩
  simp only [Bool.not_true, Bool.false_eq_true, if_false, zAg, Decls_M _ h, Decls_R _ h, Unit_M u h (by omega), Unit_R u h (by omega)]
  rw [show eqS (dv u.Decls).1 (dv u.Decls).1 = true from decide_eq_true rfl, show eqI (dv u.Decls).2 (dv u.Decls).2 = true from decide_eq_true rfl, show eqS (uv u).1 (uv u).1 = true from decide_eq_true rfl, show eqI (uv u).2 (uv u).2 = true from decide_eq_true rfl]
  cases ltI 40 (u.Imports.length : Int) <;> cases ltI 100 (u.Name.length : Int) <;> rfl
 ·rfl
end Go.Proofs.YtlhikhaailhoaaaGreatDoor
