/- For every input the law PrinterTexts returns true. Part 13 of 16. No condition. -/
import Derived.Test.YtlhikhaailhoaaaGreatDoorPTl
set_option linter.unusedVariables false
set_option linter.unnecessarySimpa false
set_option linter.unusedSimpArgs false
set_option maxRecDepth 100000
set_option maxHeartbeats 1000000
namespace Go.Proofs.YtlhikhaailhoaaaGreatDoor
open Go Go.Abs
theorem zGh (n : Int) : zDZ n = zAu n := rfl
def Gd (o : Option Int) : Prop := ∃ v, o = some v ∧ 0 ≤ v
theorem gd_ite {c : Prop} {i : Decidable c} {a b : Option Int} (h1 : Gd a) (h2 : Gd b) : Gd (@ite _ c i a b) := by
 by_cases h : c
 ·rw [if_pos h]; exact h1
 ·rw [if_neg h]; exact h2
theorem oper_ex (n : Int) : Gd (zAu n) := by
 unfold zAu
 repeat' split
 all_goals exact ⟨_, rfl, by decide⟩
theorem level_ex (t : zIi) : Gd (zCI t) := by
 obtain ⟨v, h1, h2⟩ := oper_ex t.N
 unfold zCI
 rw [h1]
 repeat' apply gd_ite
 all_goals first | exact ⟨_, rfl, by decide⟩ | exact ⟨_, rfl, h2⟩
def LV (t : zIi) : Int := (zCI t).getD 0
theorem level_M (t : zIi) : zCI t = some (LV t) := by
 obtain ⟨v, h, _⟩ := level_ex t
 unfold LV; rw [h]; rfl
theorem level_0 (t : zIi) : 0 ≤ LV t := by
 obtain ⟨v, h, h0⟩ := level_ex t
 unfold LV; rw [h]; exact h0
theorem level_R (t : zIi) : zD2 t = some (LV t) := by
 rw [← level_M, zD2, zCI]
 by_cases h1 : t.Op = 81
 ·simp only [h1, BB, Int.reduceEq, decide_false, decide_true, Bool.false_eq_true, if_false, if_true]
 by_cases h2 : t.Op = 82
 ·simp only [h2, BB, Int.reduceEq, decide_false, decide_true, Bool.false_eq_true, if_false, if_true]
 by_cases h3 : t.Op = 87
 ·simp only [h3, BB, Int.reduceEq, decide_false, decide_true, Bool.false_eq_true, if_false, if_true]
 by_cases h4 : t.Op = 88
 ·simp only [h4, BB, Int.reduceEq, decide_false, decide_true, Bool.false_eq_true, if_false, if_true]
 rw [show eqI t.Op 81 = false from decide_eq_false h1, show eqI t.Op 82 = false from decide_eq_false h2, show eqI t.Op 87 = false from decide_eq_false h3, show eqI t.Op 88 = false from decide_eq_false h4]
 simp only [Bool.false_eq_true, if_false, zGh]
def PT (t : zIi) : List (List UInt8) := match zAH (mz t) t ⟨[]⟩ with | some w => w.tokens | none => []
def QT (t : zIi) : List UInt8 := (zAM (mz t) t).getD []
structure Pr (t : zIi) : Prop where
 g : Good (PT t) (QT t)
 l1 : (PT t).length + 5 ≤ 40 * sz t
 l2 : (QT t).length + 5 ≤ 40000 * sz t
 w : ∀ (l : List (List UInt8)) (f : Nat), l.length + 40 * sz t ≤ 1000005 → mz t ≤ f → zAH f t ⟨l⟩ = some ⟨l ++ PT t⟩
 r : ∀ f : Nat, mz t ≤ f → zAM f t = some (QT t)
theorem mkPr (t : zIi) (p : List (List UInt8)) (q : List UInt8) (hs : sz t ≤ 400) (g : Good p q) (h1 : p.length + 5 ≤ 40 * sz t) (h2 : q.length + 5 ≤ 40000 * sz t)
  (hw : ∀ (l : List (List UInt8)) (f : Nat), l.length + 40 * sz t ≤ 1000005 → mz t ≤ f → zAH f t ⟨l⟩ = some ⟨l ++ p⟩)
  (hr : ∀ f : Nat, mz t ≤ f → zAM f t = some q) : Pr t := by
 have e1 : PT t = p := by unfold PT; rw [hw [] (mz t) (by rw [List.length_nil]; omega) (Nat.le_refl _)]; rfl
 have e2 : QT t = q := by unfold QT; rw [hr (mz t) (Nat.le_refl _)]; rfl
 exact ⟨by rw [e1, e2]; exact g, by rw [e1]; exact h1, by rw [e2]; exact h2, by rw [e1]; exact hw, by rw [e2]; exact hr⟩
theorem put_M (l : List (List UInt8)) (w : List (List UInt8)) (h : w.length + l.length ≤ 2000000) : zAD l ⟨w⟩ = some ⟨w ++ l⟩ := by
 rw [zAD, app_some (by decide) (by show (w.length + l.length) * 16 ≤ _; omega)]; rfl
def PP (t : zIi) (lv : Int) : List (List UInt8) := if leI lv (LV t) = true then PT t else [40] :: (PT t ++ [[41]])
def QP (t : zIi) (lv : Int) : List UInt8 := if leI lv (LV t) = true then QT t else 40 :: (QT t ++ [41])
theorem PP0 (t : zIi) : PP t 0 = PT t := by unfold PP; rw [if_pos (show leI 0 (LV t) = true from decide_eq_true (level_0 t))]
theorem QP0 (t : zIi) : QP t 0 = QT t := by unfold QP; rw [if_pos (show leI 0 (LV t) = true from decide_eq_true (level_0 t))]
structure Pc (t : zIi) (lv : Int) : Prop where
 g : Good (PP t lv) (QP t lv)
 l1 : (PP t lv).length + 3 ≤ 40 * sz t
 l2 : (QP t lv).length + 3 ≤ 40000 * sz t
 w : ∀ (l : List (List UInt8)) (f : Nat), l.length + 40 * sz t ≤ 1000000 → mz t + 5 ≤ f → zAK f t lv ⟨l⟩ = some ⟨l ++ PP t lv⟩
 r : ∀ f : Nat, mz t + 5 ≤ f → zA0 f t lv = some (QP t lv)
theorem Pr.pc {t : zIi} (h : Pr t) (hs : sz t ≤ 400) (lv : Int) : Pc t lv := by
 have h1 := h.l1; have h2 := h.l2
 by_cases hl : leI lv (LV t) = true
 ·have hn : ltI (LV t) lv = false := decide_eq_false (by have := leT hl; omega)
  refine ⟨?_, ?_, ?_, fun l f hl1 hf => ?_, fun f hf => ?_⟩
  ·unfold PP QP; rw [if_pos hl, if_pos hl]; exact h.g
  ·unfold PP; rw [if_pos hl]; omega
  ·unfold QP; rw [if_pos hl]; omega
  ·obtain ⟨g, rfl⟩ : ∃ g, f = g + 1 := ⟨f - 1, by omega⟩
   unfold PP
   rw [if_pos hl, zAK, level_M, zAl, if_pos hl, h.w l g (by omega) (by omega)]; rfl
  ·obtain ⟨g, rfl⟩ : ∃ g, f = g + 1 := ⟨f - 1, by omega⟩
   unfold QP
   rw [if_pos hl, zA0, level_R, zAl, hn, h.r g (by omega)]; rfl
 ·have hn : ltI (LV t) lv = true := decide_eq_true (by have : ¬ lv ≤ LV t := fun h' => hl (decide_eq_true h'); omega)
  refine ⟨?_, ?_, ?_, fun l f hl1 hf => ?_, fun f hf => ?_⟩
  ·unfold PP QP; rw [if_neg hl, if_neg hl]; exact G3 h.g
  ·unfold PP; rw [if_neg hl]; simp; omega
  ·unfold QP; rw [if_neg hl]; simp; omega
  ·obtain ⟨g, rfl⟩ : ∃ g, f = g + 1 := ⟨f - 1, by omega⟩
   unfold PP
   rw [if_neg hl, zAK, level_M, zAl, if_neg hl, put_M [[40]] l (by simp; omega), zAl, h.w (l ++ [[40]]) g (by simp; omega) (by omega), zAl, put_M [[41]] _ (by simp; omega), zAl]
   simp
  ·obtain ⟨g, rfl⟩ : ∃ g, f = g + 1 := ⟨f - 1, by omega⟩
   unfold QP
   rw [if_neg hl, zA0, level_R, zAl, hn, if_pos rfl, h.r g (by omega), zAl, cat1 (by simp; omega), zAl, cat1 (by simp; omega), zAl]
   simp
def lt (b : List UInt8) (lv : Int) (l : List zIi) : List (List UInt8) := (l.map (fun x => (if b = [] then [] else [b]) ++ PP x lv)).flatten
def ls (b : List UInt8) (lv : Int) (l : List zIi) : List (List UInt8) := match l with | [] => [] | x :: r => PP x lv ++ lt b lv r
def qt (b : List UInt8) (lv : Int) (l : List zIi) : List UInt8 := (l.map (fun x => b ++ QP x lv)).flatten
def qs' (b : List UInt8) (lv : Int) (l : List zIi) : List UInt8 := match l with | [] => [] | x :: r => QP x lv ++ qt b lv r
def qw (l : List zIi) : List UInt8 := (l.map (fun x => QT x ++ [32])).flatten
theorem len_lt (b : List UInt8) (lv : Int) (l : List zIi) (h : ∀ x ∈ l, Pc x lv) : (lt b lv l).length ≤ 40 * (l.map sz).sum := by
 unfold lt
 induction l with
 | nil => simp
 | cons x r ih =>
  have h1 := (h x (by simp)).l1
  have h2 := ih (fun y hy => h y (by simp [hy]))
  rw [List.map_cons, List.flatten_cons, List.map_cons, List.sum_cons, List.length_append, List.length_append]
  have h3 : (if b = [] then ([] : List (List UInt8)) else [b]).length ≤ 1 := by split <;> simp
  omega
theorem len_ls (b : List UInt8) (lv : Int) (l : List zIi) (h : ∀ x ∈ l, Pc x lv) : (ls b lv l).length ≤ 40 * (l.map sz).sum := by
 match l with
 | [] => simp [ls]
 | x :: r =>
  have h1 := (h x (by simp)).l1
  have h2 := len_lt b lv r (fun y hy => h y (by simp [hy]))
  rw [ls, List.map_cons, List.sum_cons, List.length_append]; omega
theorem len_qt (b : List UInt8) (hb : b.length ≤ 3) (lv : Int) (l : List zIi) (h : ∀ x ∈ l, Pc x lv) : (qt b lv l).length ≤ 40000 * (l.map sz).sum := by
 unfold qt
 induction l with
 | nil => simp
 | cons x r ih =>
  have h1 := (h x (by simp)).l2
  have h2 := ih (fun y hy => h y (by simp [hy]))
  rw [List.map_cons, List.flatten_cons, List.map_cons, List.sum_cons, List.length_append, List.length_append]
  omega
theorem len_qs (b : List UInt8) (hb : b.length ≤ 3) (lv : Int) (l : List zIi) (h : ∀ x ∈ l, Pc x lv) : (qs' b lv l).length ≤ 40000 * (l.map sz).sum := by
 match l with
 | [] => simp [qs']
 | x :: r =>
  have h1 := (h x (by simp)).l2
  have h2 := len_qt b hb lv r (fun y hy => h y (by simp [hy]))
  rw [qs', List.map_cons, List.sum_cons, List.length_append]; omega
theorem len_qw (l : List zIi) (h : ∀ x ∈ l, Pr x) : (qw l).length ≤ 40000 * (l.map sz).sum := by
 unfold qw
 induction l with
 | nil => simp
 | cons x r ih =>
  have h1 := (h x (by simp)).l2
  have h2 := ih (fun y hy => h y (by simp [hy]))
  rw [List.map_cons, List.flatten_cons, List.map_cons, List.sum_cons, List.length_append, List.length_append, List.length_singleton]
  omega
theorem list_loop (F : zIi → Int → zIg → Option zIg) (l : List zIi) (lv : Int) (b : List UInt8) (h : ∀ x ∈ l, Pc x lv)
  (hF : ∀ x ∈ l, ∀ w : List (List UInt8), w.length + 40 * sz x ≤ 1000000 → F x lv ⟨w⟩ = some ⟨w ++ PP x lv⟩) :
  ∀ (n i k : Nat) (w : List (List UInt8)), i + n = l.length → n + 1 ≤ k → w.length + 40 * ((l.drop i).map sz).sum + 1 ≤ 1000000 → 1 ≤ i → zA2 F l lv b k w i = some (w ++ lt b lv (l.drop i)) := by
 intro n
 induction n with
 | zero =>
  intro i k w hi hk hw h1
  obtain ⟨g, rfl⟩ : ∃ g, k = g + 1 := ⟨k - 1, by omega⟩
  rw [zA2, if_neg (ltN (by omega)), List.drop_eq_nil_of_le (by omega)]
  simp [lt]
 | succ n ih =>
  intro i k w hi hk hw hi1
  obtain ⟨g, rfl⟩ : ∃ g, k = g + 1 := ⟨k - 1, by omega⟩
  have hx : l[i]? = some l[i] := List.getElem?_eq_getElem (by omega)
  have hd : l.drop i = l[i] :: l.drop (i + 1) := List.drop_eq_getElem_cons (by omega)
  have hm : l[i] ∈ l := List.getElem_mem (by omega)
  rw [zA2, if_pos (ltP (by omega)), hx, zAl]
  rw [hd, List.map_cons, List.sum_cons] at hw
  rw [hd, show ltI 0 ((i : Nat) : Int) = true from decide_eq_true (by omega), Bool.true_and]
  generalize l[i] = x at hm hw
  have hp := (h x hm).l1
  have e : lt b lv (x :: l.drop (i + 1)) = (if b = [] then [] else [b]) ++ (PP x lv ++ lt b lv (l.drop (i + 1))) := by simp [lt]
  rw [e]
  by_cases hb : b = []
  ·rw [show eqS b [] = true from decide_eq_true hb, if_neg (by simp), hF x hm w (by omega), zAl, ih (i + 1) g _ (by omega) (by omega) (by rw [List.length_append]; omega) (by omega), if_pos hb]
   simp
  ·rw [show eqS b [] = false from decide_eq_false hb, if_pos (show (!false) = true from rfl), put_M _ _ (by simp; omega), zAl, hF x hm _ (by simp; omega), zAl, ih (i + 1) g _ (by omega) (by omega) (by rw [List.length_append, List.length_append, List.length_singleton]; omega) (by omega), if_neg hb]
   simp
theorem list_M (l : List zIi) (lv : Int) (b : List UInt8) (h : ∀ x ∈ l, Pc x lv) (w : List (List UInt8)) (f : Nat) (hf : l.length + 3 ≤ f) (hm : ∀ x ∈ l, mz x + 10 ≤ f) (hw : w.length + 40 * (l.map sz).sum + 5 ≤ 1000000) : zAk f l lv b ⟨w⟩ = some ⟨w ++ ls b lv l⟩ := by
 obtain ⟨g, rfl⟩ : ∃ g, f = g + 2 := ⟨f - 2, by omega⟩
 rw [zAk]
 match l, h, hf, hm, hw with
 | [], h, hf, hm, hw =>
  rw [zA2, if_neg (ltN (by simp))]
  simp [ls]
 | x :: r, h, hf, hm, hw =>
  have hF : ∀ y ∈ x :: r, ∀ w : List (List UInt8), w.length + 40 * sz y ≤ 1000000 → zAK (g + 1) y lv ⟨w⟩ = some ⟨w ++ PP y lv⟩ := fun y hy w hw => (h y hy).w w (g + 1) hw (by have := hm y hy; omega)
  have hp := (h x (by simp)).l1
  rw [List.map_cons, List.sum_cons] at hw
  rw [List.length_cons] at hf
  rw [zA2, if_pos (ltP (by simp)), List.getElem?_cons_zero, zAl, show ltI 0 ((0 : Nat) : Int) = false from rfl, Bool.false_and, if_neg (by simp), hF x (by simp) w (by omega), zAl,
   list_loop _ (x :: r) lv b h hF r.length 1 g _ (by simp; omega) (by omega) (by rw [List.length_append, List.drop_one, List.tail_cons]; show _ + _ + _ ≤ _; omega) (by omega), zAl, List.drop_one, List.tail_cons, ls]
  simp
theorem rlist_loop (F : zIi → Int → Option (List UInt8)) (l : List zIi) (lv : Int) (hl : l.length ≤ 1000) (hF : ∀ x ∈ l, F x lv = some (QP x lv)) :
  ∀ (n i k : Nat) (o : List (List UInt8)), i + n = l.length → n + 1 ≤ k → o.length + n ≤ 1000 → zCv F l lv k o i = some (o ++ (l.drop i).map (fun x => QP x lv)) := by
 intro n
 induction n with
 | zero =>
  intro i k o hi hk ho
  obtain ⟨g, rfl⟩ : ∃ g, k = g + 1 := ⟨k - 1, by omega⟩
  rw [zCv, if_neg (ltN (by omega)), List.drop_eq_nil_of_le (by omega)]
  simp
 | succ n ih =>
  intro i k o hi hk ho
  obtain ⟨g, rfl⟩ : ∃ g, k = g + 1 := ⟨k - 1, by omega⟩
  have hx : l[i]? = some l[i] := List.getElem?_eq_getElem (by omega)
  have hd : l.drop i = l[i] :: l.drop (i + 1) := List.drop_eq_getElem_cons (by omega)
  have hm : l[i] ∈ l := List.getElem_mem (by omega)
  rw [zCv, if_pos (ltP (by omega)), hx, zAl, hd]
  generalize l[i] = x at hm
  rw [hF x hm, zAl, app_some (by decide) (by simp; omega), zAl, ih (i + 1) g _ (by omega) (by omega) (by simp; omega)]
  simp
theorem joined_loop (l : List (List UInt8)) (b : List UInt8) : ∀ (n i k : Nat) (s : List UInt8), i + n = l.length → n + 1 ≤ k → 1 ≤ i → s.length + (Lib.joinTail b (l.drop i)).length ≤ 1000000000000 → zB3 l b k s i = some (s ++ Lib.joinTail b (l.drop i)) := by
 intro n
 induction n with
 | zero =>
  intro i k s hi hk h1 hs
  obtain ⟨g, rfl⟩ : ∃ g, k = g + 1 := ⟨k - 1, by omega⟩
  rw [zB3, if_neg (ltN (by omega)), List.drop_eq_nil_of_le (by omega)]
  simp [Lib.joinTail]
 | succ n ih =>
  intro i k s hi hk h1 hs
  obtain ⟨g, rfl⟩ : ∃ g, k = g + 1 := ⟨k - 1, by omega⟩
  have hx : l[i]? = some l[i] := List.getElem?_eq_getElem (by omega)
  have hd : l.drop i = l[i] :: l.drop (i + 1) := List.drop_eq_getElem_cons (by omega)
  rw [zB3, if_pos (ltP (by omega)), if_pos (show ltI 0 ((i : Nat) : Int) = true from decide_eq_true (by omega)), hx]
  rw [hd] at hs ⊢
  generalize l[i] = x at hs
  have e : Lib.joinTail b (x :: l.drop (i + 1)) = b ++ x ++ Lib.joinTail b (l.drop (i + 1)) := by simp [Lib.joinTail]
  rw [e] at hs ⊢
  simp only [List.length_append] at hs
  rw [cat1 (by omega), zAl, zAl, cat1 (by rw [List.length_append]; omega), zAl, ih (i + 1) g _ (by omega) (by omega) (by omega) (by simp only [List.length_append]; omega)]
  simp
theorem zIT (l : List (List UInt8)) (b : List UInt8) (hs : (Lib.join l b).length ≤ 1000000000000) {f : Nat} (hf : l.length + 2 ≤ f) : zCs f l b = some (Lib.join l b) := by
 obtain ⟨g, rfl⟩ : ∃ g, f = g + 1 := ⟨f - 1, by omega⟩
 rw [zCs]
 match l, hs, hf with
 | [], hs, hf => rfl
 | x :: r, hs, hf =>
  rw [Lib.join_cons] at hs ⊢
  rw [List.length_append] at hs
  rw [List.length_cons] at hf
  rw [zB3, if_pos (ltP (by simp)), if_neg (by decide), List.getElem?_cons_zero, zAl, cat1 (by simp; omega), zAl, joined_loop (x :: r) b r.length 1 g _ (by simp; omega) (by omega) (by omega) (by rw [List.drop_one, List.tail_cons, List.nil_append]; exact hs), zAl, List.drop_one, List.tail_cons, List.nil_append]
theorem rlist_M (l : List zIi) (lv : Int) (b : List UInt8) (hb : b.length ≤ 3) (h : ∀ x ∈ l, Pc x lv) (hs : (l.map sz).sum ≤ 400) (f : Nat) (hf : l.length + 5 ≤ f) (hm : ∀ x ∈ l, mz x + 10 ≤ f) : zCk f l lv b = some (qs' b lv l) := by
 have hl := sum_len sz zBZ l
 have hq := len_qs b hb lv l h
 obtain ⟨g, rfl⟩ : ∃ g, f = g + 1 := ⟨f - 1, by omega⟩
 have e : Lib.join (l.map (fun x => QP x lv)) b = qs' b lv l := by
  match l with
  | [] => rfl
  | x :: r => rw [List.map_cons, Lib.join_cons, qs', Lib.joinTail, qt, List.map_map]; rfl
 rw [zCk, rlist_loop (zA0 g) l lv (by omega) (fun x hx => (h x hx).r g (by have := hm x hx; omega)) l.length 0 g [] (by omega) (by omega) (by simp; omega), zAl, List.drop_zero, List.nil_append, zIT _ _ (by rw [e]; omega) (by rw [List.length_map]; omega), e]; rfl
theorem spaced_loop (F : zIi → Option (List UInt8)) (l : List zIi) (hF : ∀ x ∈ l, F x = some (QT x)) :
  ∀ (n i k : Nat) (s : List UInt8), i + n = l.length → n + 1 ≤ k → s.length + (qw (l.drop i)).length ≤ 1000000000000 → zCP F l k s i = some (s ++ qw (l.drop i)) := by
 intro n
 induction n with
 | zero =>
  intro i k s hi hk hs
  obtain ⟨g, rfl⟩ : ∃ g, k = g + 1 := ⟨k - 1, by omega⟩
  rw [zCP, if_neg (ltN (by omega)), List.drop_eq_nil_of_le (by omega)]
  simp [qw]
 | succ n ih =>
  intro i k s hi hk hs
  obtain ⟨g, rfl⟩ : ∃ g, k = g + 1 := ⟨k - 1, by omega⟩
  have hx : l[i]? = some l[i] := List.getElem?_eq_getElem (by omega)
  have hd : l.drop i = l[i] :: l.drop (i + 1) := List.drop_eq_getElem_cons (by omega)
  have hm : l[i] ∈ l := List.getElem_mem (by omega)
  rw [zCP, if_pos (ltP (by omega)), hx, zAl]
  rw [hd] at hs ⊢
  generalize l[i] = x at hm hs
  have e : qw (x :: l.drop (i + 1)) = QT x ++ ([32] ++ qw (l.drop (i + 1))) := by simp [qw]
  rw [e] at hs ⊢
  simp only [List.length_append] at hs
  rw [hF x hm, zAl, cat1 (by omega), zAl, cat1 (by rw [List.length_append]; omega), zAl, ih (i + 1) g _ (by omega) (by omega) (by simp only [List.length_append]; omega)]
  simp
theorem spaced_M (l : List zIi) (h : ∀ x ∈ l, Pr x) (hs : (l.map sz).sum ≤ 400) (f : Nat) (hf : l.length + 5 ≤ f) (hm : ∀ x ∈ l, mz x + 10 ≤ f) : zCr f l = some (qw l) := by
 have hq := len_qw l h
 obtain ⟨g, rfl⟩ : ∃ g, f = g + 1 := ⟨f - 1, by omega⟩
 rw [zCr, spaced_loop (zAM g) l (fun x hx => (h x hx).r g (by have := hm x hx; omega)) l.length 0 g [] (by omega) (by omega) (by rw [List.drop_zero, List.length_nil]; omega), List.drop_zero]
 rfl
theorem goodL (b bt : List UInt8) (lv : Int) (hb : b ≠ []) (hG : ∀ a s c r, Good a s → Good c r → Good (a ++ b :: c) (s ++ (bt ++ r))) : ∀ (l : List zIi), (∀ x ∈ l, Pc x lv) → ∀ a s, Good a s → Good (a ++ lt b lv l) (s ++ qt bt lv l) := by
 intro l
 induction l with
 | nil => intro _ a s h; simpa [lt, qt] using h
 | cons x r ih =>
  intro h a s hg
  have h1 := ih (fun y hy => h y (by simp [hy])) _ _ (hG a s _ _ hg (h x (by simp)).g)
  have e1 : a ++ lt b lv (x :: r) = a ++ b :: PP x lv ++ lt b lv r := by simp [lt, hb]
  have e2 : s ++ qt bt lv (x :: r) = s ++ (bt ++ QP x lv) ++ qt bt lv r := by simp [qt]
  rw [e1, e2]; exact h1
theorem goodLs (b bt : List UInt8) (lv : Int) (hb : b ≠ []) (hG : ∀ a s c r, Good a s → Good c r → Good (a ++ b :: c) (s ++ (bt ++ r))) (l : List zIi) (hl : 1 ≤ l.length) (h : ∀ x ∈ l, Pc x lv) : Good (ls b lv l) (qs' bt lv l) := by
 match l, hl with
 | x :: r, _ => exact goodL b bt lv hb hG r (fun y hy => h y (by simp [hy])) _ _ (h x (by simp)).g
theorem hGc : ∀ a s c r, Good a s → Good c r → Good (a ++ [44] :: c) (s ++ ([44, 32] ++ r)) := fun a s c r h1 h2 => G4 h1 h2
theorem hGs : ∀ a s c r, Good a s → Good c r → Good (a ++ [42] :: c) (s ++ ([32, 42, 32] ++ r)) := fun a s c r h1 h2 => G6 (by unfold plT; decide) h1 h2
theorem hGb : ∀ a s c r, Good a s → Good c r → Good (a ++ [124] :: c) (s ++ ([32, 124, 32] ++ r)) := fun a s c r h1 h2 => G6 (by unfold plT; decide) h1 h2
theorem goodW : ∀ (l : List zIi), (∀ x ∈ l, Pr x) → ∀ a s, Good a s → Good (ls [] 0 l ++ a) (qw l ++ s) := by
 have e0 : ∀ l, lt [] 0 l = ls [] 0 l := fun l => by cases l <;> simp [lt, ls]
 intro l
 induction l with
 | nil => intro _ a s h; exact h
 | cons x r ih =>
  intro h a s hg
  have h1 := G2 (h x (by simp)).g (ih (fun y hy => h y (by simp [hy])) a s hg)
  have e1 : ls [] 0 (x :: r) ++ a = PT x ++ (ls [] 0 r ++ a) := by rw [ls, PP0, e0, List.append_assoc]
  have e2 : qw (x :: r) ++ s = QT x ++ 32 :: (qw r ++ s) := by simp [qw]
  rw [e1, e2]; exact h1
def LW (s : List UInt8) : Prop := (∃ c r, s = c :: r ∧ c ≠ 40 ∧ c ≠ 41 ∧ c ≠ 44 ∧ c ≠ 59) ∧ s.length ≤ 24
theorem LW.pl {s : List UInt8} (h : LW s) (r : List UInt8) : plT (s ++ r) := by
 obtain ⟨⟨c, q, rfl, h1, h2, h3, h4⟩, _⟩ := h
 refine ⟨?_, ?_, ?_, ?_⟩ <;> (intro e; injection e; contradiction)
theorem LW.p {s : List UInt8} (h : LW s) : plT s := by have := h.pl []; rwa [List.append_nil] at this
theorem nm_LW (p : UInt8 → Bool) (hp : ∀ c, p c = true → c ≠ 40 ∧ c ≠ 41 ∧ c ≠ 44 ∧ c ≠ 59) {s : List UInt8} (h : nm p s = true) : LW s := by
 match s, h with
 | c :: r, h =>
  rw [nm_cons, Bool.and_eq_true, Bool.and_eq_true] at h
  obtain ⟨h1, h2, h3⟩ := h
  exact ⟨⟨c, r, rfl, hp c h2⟩, of_decide_eq_true h1⟩
theorem ca_ok (c : UInt8) (h : caB c = true) : c ≠ 40 ∧ c ≠ 41 ∧ c ≠ 44 ∧ c ≠ 59 := by
 refine ⟨?_, ?_, ?_, ?_⟩ <;> (rintro rfl; revert h; decide)
theorem sm_ok (c : UInt8) (h : smB c = true) : c ≠ 40 ∧ c ≠ 41 ∧ c ≠ 44 ∧ c ≠ 59 := by
 refine ⟨?_, ?_, ?_, ?_⟩ <;> (rintro rfl; revert h; decide)
theorem up_LW {s : List UInt8} (h : nm caB s = true) : LW s := nm_LW caB ca_ok h
theorem lo_LW {s : List UInt8} (h : loS s = true) : LW s := by
 unfold loS at h
 rw [Bool.and_eq_true] at h
 exact nm_LW smB sm_ok h.1
theorem va_LW {s : List UInt8} (h : vaS s = true) : LW s := by
 match s, h with
 | c :: r, h =>
  rw [zIA, Bool.and_eq_true, Bool.and_eq_true] at h
  have h1 := of_decide_eq_true h.1
  refine ⟨⟨c, r, rfl, ?_, ?_, ?_, ?_⟩, of_decide_eq_true h.2.1⟩ <;> (rintro rfl; revert h1; decide)
theorem pth_LW (low : Bool) : ∀ l : List (List UInt8), chkP low l = true → ∀ x ∈ l, LW x
 | [], _, x, hx => by cases hx
 | [y], h, x, hx => by
  rw [List.mem_singleton] at hx; subst hx
  have e : (if low = true then loS x else nm caB x) = true := h
  cases low
  ·exact up_LW e
  ·exact lo_LW e
 | y :: z :: r, h, x, hx => by
  have e : (nm caB y && chkP low (z :: r)) = true := h
  rw [Bool.and_eq_true] at e
  rcases List.mem_cons.1 hx with rfl | hx
  ·exact up_LW e.1
  ·exact pth_LW low (z :: r) e.2 x hx
theorem joinLen (b : List UInt8) (hb : b.length ≤ 2) : ∀ l : List (List UInt8), (∀ x ∈ l, LW x) → (Lib.joinTail b l).length ≤ 26 * l.length
 | [], _ => by simp [Lib.joinTail]
 | x :: r, h => by
  have h1 := (h x (by simp)).2
  have h2 := joinLen b hb r (fun y hy => h y (by simp [hy]))
  unfold Lib.joinTail at h2 ⊢
  simp only [List.map_cons, List.flatten_cons, List.length_append, List.length_cons]
  omega
theorem zFT {l : List (List UInt8)} {low : Bool} (h : pth l low = true) : plT (Lib.join l [46]) ∧ (Lib.join l [46]).length ≤ 300 ∧ l.length ≤ 8 := by
 unfold pth at h
 simp only [Bool.and_eq_true, decide_eq_true_eq] at h
 obtain ⟨⟨h1, h2⟩, h3⟩ := h
 have h4 := pth_LW low l h3
 match l, h1, h2, h4 with
 | x :: r, h1, h2, h4 =>
  rw [Lib.join_cons]
  have h5 := (h4 x (by simp)).2
  have h6 := joinLen [46] (by simp) r (fun y hy => h4 y (by simp [hy]))
  rw [List.length_cons] at h2
  refine ⟨(h4 x (by simp)).pl _, ?_, h2⟩
  rw [List.length_append]; omega
theorem ppath {l : List (List UInt8)} (h : (Lib.join l [46]).length ≤ 300) (h2 : l.length ≤ 8) : zBQ l = some (Lib.join l [46]) := by
 rw [zBQ, zEt, if_pos ⟨by omega, by omega⟩]; rfl
theorem zFz {l : List (List UInt8)} (h : (Lib.join l [46]).length ≤ 300) (h2 : l.length ≤ 8) (f : Nat) (hf : 20 ≤ f) : zBn f l = some (Lib.join l [46]) := by
 rw [zBn, zIT l [46] (by omega) (by omega)]; rfl
def pt : List (List UInt8) → List (List UInt8)
 | [] => []
 | [x] => [x]
 | x :: y :: r => [40] :: (x :: ((y :: r).map (fun z => [[44], z])).flatten ++ [[41]])
def pq : List (List UInt8) → List UInt8
 | [] => []
 | [x] => x ++ [32]
 | x :: y :: r => 40 :: (x ++ Lib.joinTail [44, 32] (y :: r) ++ [41, 32])
theorem prmF_va : ∀ (l s : List (List UInt8)), prmF s l = true → ∀ x ∈ l, LW x
 | [], _, _, x, hx => by cases hx
 | y :: r, s, h, x, hx => by
  rw [prmF, Bool.and_eq_true, Bool.and_eq_true] at h
  rcases List.mem_cons.1 hx with rfl | hx
  ·exact va_LW h.1.1
  ·exact prmF_va r _ h.2 x hx
theorem prm_ok {l : List (List UInt8)} (h : prm l = true) : l.length ≤ 4 ∧ ∀ x ∈ l, LW x := by
 unfold prm at h
 rw [Bool.and_eq_true] at h
 exact ⟨by have := leT h.2; omega, prmF_va l [] h.1⟩
theorem comG : ∀ (l a : List (List UInt8)) (s : List UInt8), (∀ x ∈ l, LW x) → Good a s → Good (a ++ (l.map (fun z => [[44], z])).flatten) (s ++ Lib.joinTail [44, 32] l)
 | [], a, s, _, h => by simpa [Lib.joinTail] using h
 | x :: r, a, s, hl, h => by
  have h1 := comG r _ _ (fun y hy => hl y (by simp [hy])) (G4 h (G1 (hl x (by simp)).p))
  have e1 : a ++ ((x :: r).map (fun z => [[44], z])).flatten = a ++ [44] :: [x] ++ (r.map (fun z => [[44], z])).flatten := by simp
  have e2 : s ++ Lib.joinTail [44, 32] (x :: r) = s ++ 44 :: 32 :: x ++ Lib.joinTail [44, 32] r := by simp [Lib.joinTail]
  rw [e1, e2]; exact h1
theorem parG {l : List (List UInt8)} (hl : ∀ x ∈ l, LW x) {a : List (List UInt8)} {s : List UInt8} (h : Good a s) : Good (pt l ++ a) (pq l ++ s) := by
 match l, hl with
 | [], _ => exact h
 | [x], hl =>
  have := G2 (G1 (hl x (by simp)).p) h
  rw [pt, pq, List.append_assoc]; exact this
 | x :: y :: r, hl =>
  have h1 := comG (y :: r) [x] x (fun z hz => hl z (by simp only [List.mem_cons] at hz ⊢; exact .inr hz)) (G1 (hl x (by simp)).p)
  have h2 := G2 (G3 h1) h
  rw [pt, pq]
  simp only [List.cons_append, List.append_assoc, List.nil_append] at h2 ⊢
  exact h2
theorem pt_len {l : List (List UInt8)} (h : l.length ≤ 4) : (pt l).length ≤ 10 := by
 match l, h with
 | [], _ => simp [pt]
 | [_], _ => simp [pt]
 | [_, _], _ => simp [pt]
 | [_, _, _], _ => simp [pt]
 | [_, _, _, _], _ => simp [pt]
theorem pq_len {l : List (List UInt8)} (h : l.length ≤ 4) (hl : ∀ x ∈ l, LW x) : (pq l).length ≤ 200 := by
 match l, h, hl with
 | [], _, _ => simp [pq]
 | [x], _, hl => have := (hl x (by simp)).2; rw [pq, List.length_append, List.length_singleton]; omega
 | x :: y :: r, h, hl =>
  have h1 := (hl x (by simp)).2
  have h2 := joinLen [44, 32] (by simp) (y :: r) (fun z hz => hl z (by simp only [List.mem_cons] at hz ⊢; exact .inr hz))
  rw [List.length_cons] at h
  rw [pq, List.length_cons, List.length_append, List.length_append, List.length_cons, List.length_singleton]
  omega
theorem fl2 : ∀ l : List (List UInt8), (l.map (fun z => [[44], z])).flatten.length = 2 * l.length
 | [] => rfl
 | x :: r => by rw [List.map_cons, List.flatten_cons, List.length_append, fl2 r]; simp; omega
theorem par_loop (l : List (List UInt8)) (hl : l.length ≤ 10) : ∀ (n i k : Nat) (w : List (List UInt8)), i + n = l.length → n + 1 ≤ k → w.length + 2 * n ≤ 1500000 → 1 ≤ i → zA1 l k w i = some (w ++ ((l.drop i).map (fun z => [[44], z])).flatten) := by
 intro n
 induction n with
 | zero =>
  intro i k w hi hk hw h1
  obtain ⟨g, rfl⟩ : ∃ g, k = g + 1 := ⟨k - 1, by omega⟩
  rw [zA1, if_neg (ltN (by omega)), List.drop_eq_nil_of_le (by omega)]
  simp
 | succ n ih =>
  intro i k w hi hk hw h1
  obtain ⟨g, rfl⟩ : ∃ g, k = g + 1 := ⟨k - 1, by omega⟩
  have hx : l[i]? = some l[i] := List.getElem?_eq_getElem (by omega)
  have hd : l.drop i = l[i] :: l.drop (i + 1) := List.drop_eq_getElem_cons (by omega)
  rw [zA1, if_pos (ltP (by omega)), hx, zAl, hd, if_pos (show ltI 0 ((i : Nat) : Int) = true from decide_eq_true (by omega))]
  generalize l[i] = x
  rw [put_M _ _ (by simp; omega), zAl, put_M _ _ (by simp; omega), zAl, ih (i + 1) g _ (by omega) (by omega) (by simp; omega) (by omega)]
  simp
theorem par_M {l : List (List UInt8)} (hl : l.length ≤ 4) (w : List (List UInt8)) (f : Nat) (hw : w.length ≤ 1100000) (hf : 20 ≤ f) : zBG f l ⟨w⟩ = some ⟨w ++ pt l⟩ := by
 obtain ⟨g, rfl⟩ : ∃ g, f = g + 1 := ⟨f - 1, by omega⟩
 match l, hl with
 | [], _ => rw [zBG, pt, List.append_nil]; rfl
 | [x], _ =>
  rw [zBG, show eqI (([x] : List (List UInt8)).length : Int) 0 = false from rfl, show eqI (([x] : List (List UInt8)).length : Int) 1 = true from rfl]
  simp only [Bool.false_eq_true, if_false, if_true, List.getElem?_cons_zero, zAl]
  rw [put_M _ _ (by simp; omega)]; rfl
 | x :: y :: r, hl =>
  rw [zBG, show eqI ((x :: y :: r).length : Int) 0 = false from decide_eq_false (by simp; omega), show eqI ((x :: y :: r).length : Int) 1 = false from decide_eq_false (by simp; omega)]
  simp only [Bool.false_eq_true, if_false]
  rw [put_M _ _ (by simp; omega), zAl, zA1, if_pos (ltP (by simp)), List.getElem?_cons_zero, zAl, if_neg (by decide), put_M _ _ (by simp; omega), zAl, par_loop (x :: y :: r) (by omega) (r.length + 1) 1 g _ (by simp; omega) (by simp at hl; omega) (by simp at hl ⊢; omega) (by omega), zAl, put_M _ _ (by rw [List.length_append, fl2]; simp at hl ⊢; omega), zAl, pt]
  simp
theorem rpar_M {l : List (List UInt8)} (hl : l.length ≤ 4) (h : ∀ x ∈ l, LW x) (f : Nat) (hf : 20 ≤ f) : zCV f l = some (pq l) := by
 have hq := pq_len hl h
 match l, hl, h, hq with
 | [], _, _, _ => rw [zCV]; rfl
 | [x], _, h, _ =>
  rw [zCV, show eqI (([x] : List (List UInt8)).length : Int) 0 = false from rfl, show eqI (([x] : List (List UInt8)).length : Int) 1 = true from rfl]
  simp only [Bool.false_eq_true, if_false, if_true, List.getElem?_cons_zero, zAl]
  have := (h x (by simp)).2
  rw [cat1 (by simp; omega)]; rfl
 | x :: y :: r, hl, h, hq =>
  rw [pq, List.length_cons, List.length_append, List.length_append] at hq
  rw [zCV, show eqI ((x :: y :: r).length : Int) 0 = false from decide_eq_false (by simp; omega), show eqI ((x :: y :: r).length : Int) 1 = false from decide_eq_false (by simp; omega)]
  simp only [Bool.false_eq_true, if_false]
  rw [zIT (x :: y :: r) [44, 32] (by rw [Lib.join_cons, List.length_append]; omega) (by omega), zAl, Lib.join_cons, cat1 (by rw [List.length_append, List.length_singleton]; omega), zAl, cat1 (by rw [List.length_append, List.length_append, List.length_singleton, List.length_cons, List.length_singleton]; omega), zAl, pq]
  simp
theorem namG : ∀ (l a : List (List UInt8)) (s : List UInt8), (∀ x ∈ l, LW x) → Good a s → Good (a ++ l) (s ++ Lib.joinTail [32] l)
 | [], a, s, _, h => by simpa [Lib.joinTail] using h
 | x :: r, a, s, hl, h => by
  have h1 := namG r _ _ (fun y hy => hl y (by simp [hy])) (G2 h (G1 (hl x (by simp)).p))
  have e1 : a ++ x :: r = a ++ [x] ++ r := by simp
  have e2 : s ++ Lib.joinTail [32] (x :: r) = s ++ 32 :: x ++ Lib.joinTail [32] r := by simp [Lib.joinTail]
  rw [e1, e2]; exact h1
def IH (t : zIi) : Prop := ∀ x, sz x < sz t → ok x false = true → Pr x
theorem okD {t : zIi} (h : ok t false = true) : (nd t false).1 = true ∧ (nd t false).2 = true ∧ ∀ x ∈ t.L, ok x (eqI t.Op 74) = true := by
 rw [ok_eq, Bool.and_eq_true, Bool.and_eq_true] at h
 exact ⟨h.1, h.2.1, List.all_eq_true.1 h.2.2⟩
structure Kids (t : zIi) : Prop where
 p : ∀ x ∈ t.L, Pr x
 s : (t.L.map sz).sum + 1 = sz t
 m : (t.L.map mz).sum + t.L.length + t.S.length + 200 ≤ mz t
 z : sz t ≤ 400
theorem Kids.mk' {t : zIi} (hz : sz t ≤ 400) (h : t.Op ≠ 74) (hok : ok t false = true) (ih : IH t) : Kids t := by
 have h1 := (okD hok).2.2
 rw [show eqI t.Op 74 = false from decide_eq_false h] at h1
 have h2 := sz_eq t
 have h3 := mz_eq t
 exact ⟨fun x hx => ih x (by have := sz_mem hx; omega) (h1 x hx), by omega, by omega, hz⟩
theorem Kids.pc {t : zIi} (k : Kids t) (lv : Int) : ∀ x ∈ t.L, Pc x lv := fun x hx => (k.p x hx).pc (by have := sz_mem hx; have := k.z; omega) lv
theorem Kids.mz {t : zIi} (k : Kids t) : ∀ x ∈ t.L, mz x + 200 ≤ mz t := fun x hx => mz_mem hx
theorem kid1 {t : zIi} {a : Int} (k : Kids t) (h : kids [a] t.L = true) : ∃ x, t.L = [x] ∧ Pr x ∧ sz x + 1 = sz t ∧ mz x + t.S.length + 200 ≤ mz t ∧ bx a x.Op = true := by
 match hL : t.L, h with
 | [x], h =>
  have h1 := k.s; have h2 := k.m
  rw [hL] at h1 h2
  simp only [List.map_cons, List.map_nil, List.sum_cons, List.sum_nil, List.length_cons, List.length_nil] at h1 h2
  rw [kids, Bool.and_eq_true] at h
  exact ⟨x, rfl, k.p x (by rw [hL]; simp), by omega, by omega, h.1⟩
 | [], h => cases h
 | x :: y :: r, h => simp [kids] at h
theorem kid2 {t : zIi} {a b : Int} (k : Kids t) (h : kids [a, b] t.L = true) : ∃ x y, t.L = [x, y] ∧ Pr x ∧ Pr y ∧ sz x + sz y + 1 = sz t ∧ mz x + mz y + t.S.length + 200 ≤ mz t := by
 match hL : t.L, h with
 | [x, y], h =>
  have h1 := k.s; have h2 := k.m
  rw [hL] at h1 h2
  simp only [List.map_cons, List.map_nil, List.sum_cons, List.sum_nil, List.length_cons, List.length_nil] at h1 h2
  exact ⟨x, y, rfl, k.p x (by rw [hL]; simp), k.p y (by rw [hL]; simp), by omega, by omega⟩
 | [], h => cases h
 | [x], h => simp [kids] at h
 | x :: y :: z :: r, h => simp [kids] at h
theorem kid3 {t : zIi} {a b c : Int} (k : Kids t) (h : kids [a, b, c] t.L = true) : ∃ x y z, t.L = [x, y, z] ∧ Pr x ∧ Pr y ∧ Pr z ∧ sz x + sz y + sz z + 1 = sz t ∧ mz x + mz y + mz z + t.S.length + 200 ≤ mz t := by
 match hL : t.L, h with
 | [x, y, z], h =>
  have h1 := k.s; have h2 := k.m
  rw [hL] at h1 h2
  simp only [List.map_cons, List.map_nil, List.sum_cons, List.sum_nil, List.length_cons, List.length_nil] at h1 h2
  exact ⟨x, y, z, rfl, k.p x (by rw [hL]; simp), k.p y (by rw [hL]; simp), k.p z (by rw [hL]; simp), by omega, by omega⟩
 | [], h => cases h
 | [x], h => simp [kids] at h
 | [x, y], h => simp [kids] at h
 | x :: y :: z :: u :: r, h => simp [kids] at h
theorem leD (a b : Int) : leI a b = decide (a ≤ b) := Eq.trans (Bool.and_true _).symm (Bool.and_true _)
theorem zAd {x : List UInt8} (h : decide (x ≠ [40] ∧ x ≠ [41] ∧ x ≠ [44] ∧ x ≠ [59]) = true) : plT x := by
 have := of_decide_eq_true h
 exact this
structure Sub (t : zIi) (l : List zIi) : Prop where
 p : ∀ x ∈ l, Pr x
 s : (l.map sz).sum + 1 ≤ sz t
 m : ∀ x ∈ l, mz x + 200 ≤ mz t
 n : l.length + 200 ≤ mz t
 z : sz t ≤ 400
theorem Sub.pc {t : zIi} {l : List zIi} (S : Sub t l) (lv : Int) : ∀ x ∈ l, Pc x lv := fun x hx => (S.p x hx).pc (by have := sum_mem sz l x hx; have := S.z; have := S.s; omega) lv
theorem Sub.l {t : zIi} {l : List zIi} (S : Sub t l) (b : List UInt8) (lv : Int) : (ls b lv l).length ≤ 40 * (l.map sz).sum := len_ls b lv l (S.pc lv)
theorem Sub.q {t : zIi} {l : List zIi} (S : Sub t l) (b : List UInt8) (lv : Int) (hb : decide (b.length ≤ 3) = true) : (qs' b lv l).length ≤ 40000 * (l.map sz).sum := len_qs b (of_decide_eq_true hb) lv l (S.pc lv)
theorem Sub.w {t : zIi} {l : List zIi} (S : Sub t l) : (qw l).length ≤ 40000 * (l.map sz).sum := len_qw l S.p
theorem zGO {t : zIi} {l : List zIi} (S : Sub t l) (b : List UInt8) (lv : Int) (w : List (List UInt8)) (f : Nat) (h1 : mz t ≤ f + 100) (h2 : w.length + 40 * (l.map sz).sum + 5 ≤ 1000000) : zAk f l lv b ⟨w⟩ = some ⟨w ++ ls b lv l⟩ :=
 list_M l lv b (S.pc lv) w f (by have := S.n; omega) (fun x hx => by have := S.m x hx; omega) h2
theorem zGv {t : zIi} {l : List zIi} (S : Sub t l) (b : List UInt8) (lv : Int) (hb : decide (b.length ≤ 3) = true) (f : Nat) (h1 : mz t ≤ f + 100) : zCk f l lv b = some (qs' b lv l) :=
 rlist_M l lv b (of_decide_eq_true hb) (S.pc lv) (by have := S.s; have := S.z; omega) f (by have := S.n; omega) (fun x hx => by have := S.m x hx; omega)
theorem zIF {t : zIi} {l : List zIi} (S : Sub t l) (f : Nat) (h1 : mz t ≤ f + 100) : zCr f l = some (qw l) :=
 spaced_M l S.p (by have := S.s; have := S.z; omega) f (by have := S.n; omega) (fun x hx => by have := S.m x hx; omega)
theorem Kids.sub {t : zIi} (k : Kids t) : Sub t t.L := ⟨k.p, by have := k.s; omega, k.mz, by have := k.m; omega, k.z⟩
theorem QL : (decide ((([] : List zIi).length : Int) = 0) = true) ∧ (∀ (x : zIi) (r : List zIi), decide (((x :: r).length : Int) = 0) = false) ∧ (∀ (x : zIi), decide ((([x] : List zIi).length : Int) = 1) = true) ∧ (∀ (x : zIi) (r : List zIi), decide ((((x :: r).length : Nat) : Int) ≤ 0) = false) ∧ (decide ((([] : List zIi).length : Int) ≤ 0) = true) ∧ (∀ l : List (List UInt8), ([] : List (List UInt8)) ++ l = l) ∧ (∀ l : List UInt8, ([] : List UInt8) ++ l = l) :=
 ⟨rfl, fun x r => decide_eq_false (by rw [List.length_cons]; omega), fun _ => rfl, fun x r => decide_eq_false (by rw [List.length_cons]; omega), rfl, fun _ => rfl, fun _ => rfl⟩
theorem mkP (t : zIi) (p : List (List UInt8)) (q : List UInt8) (hs : sz t ≤ 400) (g : Good p q) (h1 : p.length + 5 ≤ 40 * sz t) (h2 : q.length + 5 ≤ 40000 * sz t)
  (hw : ∀ (l : List (List UInt8)) (g : Nat), l.length + 40 * sz t ≤ 1000005 → mz t ≤ g + 10 → zAH (g + 10) t ⟨l⟩ = some ⟨l ++ p⟩)
  (hr : ∀ g : Nat, mz t ≤ g + 10 → zAM (g + 10) t = some q) : Pr t :=
 have hm := mz_eq t
 mkPr t p q hs g h1 h2 (fun l f hl hf => by
  obtain ⟨g, rfl⟩ : ∃ g, f = g + 10 := ⟨f - 10, by omega⟩
  exact hw l g hl hf) (fun f hf => by
  obtain ⟨g, rfl⟩ : ∃ g, f = g + 10 := ⟨f - 10, by omega⟩
  exact hr g hf)
theorem LE : (∀ (α : Type) (a b : List α), (a ++ b).length = a.length + b.length) ∧ (∀ (α : Type) (a : α) (b : List α), (a :: b).length = b.length + 1) ∧ (∀ α : Type, ([] : List α).length = 0) ∧ (∀ (α β : Type) (f : α → β), [].map f = []) ∧ (([] : List Nat).sum = 0) ∧ (∀ (α β : Type) (f : α → β) (a : α) (b : List α), (a :: b).map f = f a :: b.map f) ∧ (∀ (a : Nat) (b : List Nat), (a :: b).sum = a + b.sum) :=
 ⟨fun _ _ _ => List.length_append, fun _ _ _ => rfl, fun _ => rfl, fun _ _ _ => rfl, rfl, fun _ _ _ _ _ => rfl, fun _ _ => List.sum_cons⟩
theorem CD : (∀ a b : Int, leI a b = decide (a ≤ b)) ∧ (∀ (α : Type) (a : α) (l : List α), (a :: l)[0]? = some a) ∧ (∀ (α : Type) (a : α) (l : List α) (i : Nat), (a :: l)[i + 1]? = l[i]?) ∧ (∀ t, PP t 0 = PT t) ∧ (∀ t, QP t 0 = QT t) ∧ (∀ (α : Type) (a b c : List α), a ++ b ++ c = a ++ (b ++ c)) ∧ (∀ (α : Type) (a : α) (b c : List α), a :: b ++ c = a :: (b ++ c)) ∧ (∀ (α : Type) (b : List α), [] ++ b = b) ∧ (∀ (α : Type) (b : List α), b ++ [] = b) ∧ (∀ l w : List (List UInt8), w.length + l.length ≤ 2000000 → zAD l ⟨w⟩ = some ⟨w ++ l⟩) ∧ (∀ x y : List UInt8, x.length + y.length ≤ 1152921504606846976 → cat x y = some (x ++ y)) :=
 ⟨leD, fun _ _ _ => rfl, fun _ _ _ _ => rfl, PP0, QP0, fun _ => List.append_assoc, fun _ _ _ _ => rfl, fun _ _ => rfl, fun _ => List.append_nil, put_M, fun _ _ => cat1⟩
theorem if3 : ltI ((0 : Nat) : Int) (([[105, 102], [116, 104, 101, 110], [101, 108, 115, 101]] : List (List UInt8)).length : Int) = true ∧ ltI ((0 + 1 : Nat) : Int) (([[105, 102], [116, 104, 101, 110], [101, 108, 115, 101]] : List (List UInt8)).length : Int) = true ∧ ltI ((0 + 1 + 1 : Nat) : Int) (([[105, 102], [116, 104, 101, 110], [101, 108, 115, 101]] : List (List UInt8)).length : Int) = true ∧ ltI ((0 + 1 + 1 + 1 : Nat) : Int) (([[105, 102], [116, 104, 101, 110], [101, 108, 115, 101]] : List (List UInt8)).length : Int) = false := ⟨rfl, rfl, rfl, rfl⟩
theorem pr1 (t : zIi) (h : t.Op = 1) (hok : ok t false = true) (hs : sz t ≤ 400) (ih : IH t) : Pr t := by
 obtain ⟨ho, hk, _⟩ := okD hok
 have K := Kids.mk' hs (by rw [h]; decide) hok ih
 rw [nd, h] at ho hk
 simp only [Bool.and_eq_true, Bool.or_eq_true] at ho hk
 have hW := va_LW ho.2
 have hS := hW.p
 have hm := K.m
 have := zBZ t
 have := hW.2
 refine mkP t [t.S] t.S hs (G1 hS) ?_ ?_ (fun l g hl hf => ?_) (fun g hf => ?_)
 ·first | omega | (simp only [LE]; omega)
 ·first | omega | (simp only [LE]; omega)
 ·rw [zAH]
  simp (disch := first | omega | (simp only [LE]; omega)) only [h, BB, CD, Int.reduceEq, Int.reduceLE, ↓reduceIte]
 ·rw [zAM]
  simp (disch := first | omega | (simp only [LE]; omega)) only [h, BB, CD, Int.reduceEq, Int.reduceLE, ↓reduceIte, zCc]
theorem pr3 (t : zIi) (h : t.Op = 3) (hok : ok t false = true) (hs : sz t ≤ 400) (ih : IH t) : Pr t := by
 obtain ⟨ho, hk, _⟩ := okD hok
 have K := Kids.mk' hs (by rw [h]; decide) hok ih
 rw [nd, h] at ho hk
 simp only [Bool.and_eq_true, Bool.or_eq_true] at ho hk
 obtain ⟨x, y, hL, hx, hy, hzz, hm⟩ := kid2 K hk
 have cx := hx.pc (by omega) 1
 have cy := hy.pc (by omega) 0
 have := zBZ t
 have := cx.l1
 have := cx.l2
 have := hy.l1
 have := hy.l2
 refine mkP t (PP x 1 ++ ([[45, 62]] ++ PT y)) (QP x 1 ++ 32 :: ([45, 62] ++ 32 :: QT y)) hs (G2 (cx.g) (G2 (G1 (zAd rfl)) (hy.g))) ?_ ?_ (fun l g hl hf => ?_) (fun g hf => ?_)
 ·first | omega | (simp only [LE]; omega)
 ·first | omega | (simp only [LE]; omega)
 ·rw [zAH]
  simp (disch := first | omega | (simp only [LE]; omega)) only [h, BB, CD, Int.reduceEq, Int.reduceLE, ↓reduceIte, hL, cx.w, cy.w]
 ·rw [zAM]
  simp (disch := first | omega | (simp only [LE]; omega)) only [h, BB, CD, Int.reduceEq, Int.reduceLE, ↓reduceIte, zCc, hL, cx.r, hy.r, cy.r]
theorem pr5 (t : zIi) (h : t.Op = 5) (hok : ok t false = true) (hs : sz t ≤ 400) (ih : IH t) : Pr t := by
 obtain ⟨ho, hk, _⟩ := okD hok
 have K := Kids.mk' hs (by rw [h]; decide) hok ih
 rw [nd, h] at ho hk
 simp only [Bool.and_eq_true, Bool.or_eq_true] at ho hk
 have hP := zFT ho.2
 have hm := K.m
 have := zBZ t
 have := hP.2.1
 have := hP.2.2
 refine mkP t ([40] :: (([[109, 111, 100, 117, 108, 101]] ++ [Lib.join t.Names [46]]) ++ [[41]])) (40 :: (([109, 111, 100, 117, 108, 101] ++ 32 :: (Lib.join t.Names [46])) ++ [41])) hs (G3 (G2 (G1 (zAd rfl)) (G1 hP.1))) ?_ ?_ (fun l g hl hf => ?_) (fun g hf => ?_)
 ·first | omega | (simp only [LE]; omega)
 ·first | omega | (simp only [LE]; omega)
 ·rw [zAH]
  simp (disch := first | omega | (simp only [LE]; omega)) only [h, BB, CD, Int.reduceEq, Int.reduceLE, ↓reduceIte, ppath hP.2.1 hP.2.2]
 ·rw [zAM]
  simp (disch := first | omega | (simp only [LE]; omega)) only [h, BB, CD, Int.reduceEq, Int.reduceLE, ↓reduceIte, zCc, zFz hP.2.1 hP.2.2]
theorem pr11 (t : zIi) (h : t.Op = 11) (hok : ok t false = true) (hs : sz t ≤ 400) (ih : IH t) : Pr t := by
 obtain ⟨ho, hk, _⟩ := okD hok
 have K := Kids.mk' hs (by rw [h]; decide) hok ih
 rw [nd, h] at ho hk
 simp only [Bool.and_eq_true, Bool.or_eq_true] at ho hk
 have hm := K.m
 have := zBZ t
 refine mkP t [[95]] [95] hs (G1 (zAd rfl)) ?_ ?_ (fun l g hl hf => ?_) (fun g hf => ?_)
 ·first | omega | (simp only [LE]; omega)
 ·first | omega | (simp only [LE]; omega)
 ·rw [zAH]
  simp (disch := first | omega | (simp only [LE]; omega)) only [h, BB, CD, Int.reduceEq, Int.reduceLE, ↓reduceIte]
 ·rw [zAM]
  simp (disch := first | omega | (simp only [LE]; omega)) only [h, BB, CD, Int.reduceEq, Int.reduceLE, ↓reduceIte, zAW]
theorem pr12 (t : zIi) (h : t.Op = 12) (hok : ok t false = true) (hs : sz t ≤ 400) (ih : IH t) : Pr t := by
 obtain ⟨ho, hk, _⟩ := okD hok
 have K := Kids.mk' hs (by rw [h]; decide) hok ih
 rw [nd, h] at ho hk
 simp only [Bool.and_eq_true, Bool.or_eq_true] at ho hk
 have hW := lo_LW ho.2
 have hS := hW.p
 have hm := K.m
 have := zBZ t
 have := hW.2
 refine mkP t [t.S] t.S hs (G1 hS) ?_ ?_ (fun l g hl hf => ?_) (fun g hf => ?_)
 ·first | omega | (simp only [LE]; omega)
 ·first | omega | (simp only [LE]; omega)
 ·rw [zAH]
  simp (disch := first | omega | (simp only [LE]; omega)) only [h, BB, CD, Int.reduceEq, Int.reduceLE, ↓reduceIte]
 ·rw [zAM]
  simp (disch := first | omega | (simp only [LE]; omega)) only [h, BB, CD, Int.reduceEq, Int.reduceLE, ↓reduceIte, zAW]
theorem pr23 (t : zIi) (h : t.Op = 23) (hok : ok t false = true) (hs : sz t ≤ 400) (ih : IH t) : Pr t := by
 obtain ⟨ho, hk, _⟩ := okD hok
 have K := Kids.mk' hs (by rw [h]; decide) hok ih
 rw [nd, h] at ho hk
 simp only [Bool.and_eq_true, Bool.or_eq_true] at ho hk
 have hP := zFT ho.2
 have hm := K.m
 have := zBZ t
 have := hP.2.1
 have := hP.2.2
 refine mkP t [Lib.join t.Names [46]] (Lib.join t.Names [46]) hs (G1 hP.1) ?_ ?_ (fun l g hl hf => ?_) (fun g hf => ?_)
 ·first | omega | (simp only [LE]; omega)
 ·first | omega | (simp only [LE]; omega)
 ·rw [zAH]
  simp (disch := first | omega | (simp only [LE]; omega)) only [h, BB, CD, Int.reduceEq, Int.reduceLE, ↓reduceIte, ppath hP.2.1 hP.2.2]
 ·rw [zAM]
  simp (disch := first | omega | (simp only [LE]; omega)) only [h, BB, CD, Int.reduceEq, Int.reduceLE, ↓reduceIte, zAW, zFz hP.2.1 hP.2.2]
theorem pr24 (t : zIi) (h : t.Op = 24) (hok : ok t false = true) (hs : sz t ≤ 400) (ih : IH t) : Pr t := by
 obtain ⟨ho, hk, _⟩ := okD hok
 have K := Kids.mk' hs (by rw [h]; decide) hok ih
 rw [nd, h] at ho hk
 simp only [Bool.and_eq_true, Bool.or_eq_true] at ho hk
 have hP := zFT ho.2
 have hm := K.m
 have := zBZ t
 have := hP.2.1
 have := hP.2.2
 refine mkP t [Lib.join t.Names [46]] (Lib.join t.Names [46]) hs (G1 hP.1) ?_ ?_ (fun l g hl hf => ?_) (fun g hf => ?_)
 ·first | omega | (simp only [LE]; omega)
 ·first | omega | (simp only [LE]; omega)
 ·rw [zAH]
  simp (disch := first | omega | (simp only [LE]; omega)) only [h, BB, CD, Int.reduceEq, Int.reduceLE, ↓reduceIte, ppath hP.2.1 hP.2.2]
 ·rw [zAM]
  simp (disch := first | omega | (simp only [LE]; omega)) only [h, BB, CD, Int.reduceEq, Int.reduceLE, ↓reduceIte, zAW, zFz hP.2.1 hP.2.2]
theorem pr26 (t : zIi) (h : t.Op = 26) (hok : ok t false = true) (hs : sz t ≤ 400) (ih : IH t) : Pr t := by
 obtain ⟨ho, hk, _⟩ := okD hok
 have K := Kids.mk' hs (by rw [h]; decide) hok ih
 rw [nd, h] at ho hk
 simp only [Bool.and_eq_true, Bool.or_eq_true] at ho hk
 obtain ⟨x, y, hL, hx, hy, hzz, hm⟩ := kid2 K hk
 have cx := hx.pc (by omega) 8
 have cy := hy.pc (by omega) 9
 have := zBZ t
 have := cx.l1
 have := cx.l2
 have := cy.l1
 have := cy.l2
 refine mkP t (PP x 8 ++ PP y 9) (QP x 8 ++ 32 :: QP y 9) hs (G2 (cx.g) (cy.g)) ?_ ?_ (fun l g hl hf => ?_) (fun g hf => ?_)
 ·first | omega | (simp only [LE]; omega)
 ·first | omega | (simp only [LE]; omega)
 ·rw [zAH]
  simp (disch := first | omega | (simp only [LE]; omega)) only [h, BB, CD, Int.reduceEq, Int.reduceLE, ↓reduceIte, zAI, hL, cx.w, cy.w]
 ·rw [zAM]
  simp (disch := first | omega | (simp only [LE]; omega)) only [h, BB, CD, Int.reduceEq, Int.reduceLE, ↓reduceIte, zAW, hL, cx.r, cy.r]
theorem pr30 (t : zIi) (h : t.Op = 30) (hok : ok t false = true) (hs : sz t ≤ 400) (ih : IH t) : Pr t := by
 obtain ⟨ho, hk, _⟩ := okD hok
 have K := Kids.mk' hs (by rw [h]; decide) hok ih
 rw [nd, h] at ho hk
 simp only [Bool.and_eq_true, Bool.or_eq_true] at ho hk
 obtain ⟨x, y, hL, hx, hy, hzz, hm⟩ := kid2 K hk
 have cx := hx.pc (by omega) 0
 have cy := hy.pc (by omega) 0
 have := zBZ t
 have := hx.l1
 have := hx.l2
 have := hy.l1
 have := hy.l2
 refine mkP t (PT x ++ ([[61, 62]] ++ PT y)) (QT x ++ 32 :: ([61, 62] ++ 32 :: QT y)) hs (G2 (hx.g) (G2 (G1 (zAd rfl)) (hy.g))) ?_ ?_ (fun l g hl hf => ?_) (fun g hf => ?_)
 ·first | omega | (simp only [LE]; omega)
 ·first | omega | (simp only [LE]; omega)
 ·rw [zAH]
  simp (disch := first | omega | (simp only [LE]; omega)) only [h, BB, CD, Int.reduceEq, Int.reduceLE, ↓reduceIte, zAI, hL, cx.w, cy.w]
 ·rw [zAM]
  simp (disch := first | omega | (simp only [LE]; omega)) only [h, BB, CD, Int.reduceEq, Int.reduceLE, ↓reduceIte, zAW, hL, hx.r, cx.r, hy.r, cy.r]
theorem pr33 (t : zIi) (h : t.Op = 33) (hok : ok t false = true) (hs : sz t ≤ 400) (ih : IH t) : Pr t := by
 obtain ⟨ho, hk, _⟩ := okD hok
 have K := Kids.mk' hs (by rw [h]; decide) hok ih
 rw [nd, h] at ho hk
 simp only [Bool.and_eq_true, Bool.or_eq_true] at ho hk
 obtain ⟨x, y, hL, hx, hy, hzz, hm⟩ := kid2 K hk
 have cx := hx.pc (by omega) 0
 have cy := hy.pc (by omega) 0
 have := zBZ t
 have := hx.l1
 have := hx.l2
 have := hy.l1
 have := hy.l2
 refine mkP t ([40] :: ((PT x ++ ([[58]] ++ PT y)) ++ [[41]])) (40 :: ((QT x ++ 32 :: ([58] ++ 32 :: QT y)) ++ [41])) hs (G3 (G2 (hx.g) (G2 (G1 (zAd rfl)) (hy.g)))) ?_ ?_ (fun l g hl hf => ?_) (fun g hf => ?_)
 ·first | omega | (simp only [LE]; omega)
 ·first | omega | (simp only [LE]; omega)
 ·rw [zAH]
  simp (disch := first | omega | (simp only [LE]; omega)) only [h, BB, CD, Int.reduceEq, Int.reduceLE, ↓reduceIte, zAI, hL, cx.w, cy.w]
 ·rw [zAM]
  simp (disch := first | omega | (simp only [LE]; omega)) only [h, BB, CD, Int.reduceEq, Int.reduceLE, ↓reduceIte, zAW, hL, hx.r, cx.r, hy.r, cy.r]
theorem pr41 (t : zIi) (h : t.Op = 41) (hok : ok t false = true) (hs : sz t ≤ 400) (ih : IH t) : Pr t := by
 obtain ⟨ho, hk, _⟩ := okD hok
 have K := Kids.mk' hs (by rw [h]; decide) hok ih
 rw [nd, h] at ho hk
 simp only [Bool.and_eq_true, Bool.or_eq_true] at ho hk
 have hW := lo_LW ho.2
 have hS := hW.p
 obtain ⟨x, hL, hx, hzz, hm, hb⟩ := kid1 K hk
 have cx := hx.pc (by omega) 0
 have := zBZ t
 have := hW.2
 have := hx.l1
 have := hx.l2
 refine mkP t ([[118, 97, 108]] ++ ([t.S] ++ ([[61]] ++ PT x))) ([118, 97, 108] ++ 32 :: (t.S ++ 32 :: ([61] ++ 32 :: QT x))) hs (G2 (G1 (zAd rfl)) (G2 (G1 hS) (G2 (G1 (zAd rfl)) (hx.g)))) ?_ ?_ (fun l g hl hf => ?_) (fun g hf => ?_)
 ·first | omega | (simp only [LE]; omega)
 ·first | omega | (simp only [LE]; omega)
 ·rw [zAH]
  simp (disch := first | omega | (simp only [LE]; omega)) only [h, BB, CD, Int.reduceEq, Int.reduceLE, ↓reduceIte, zAI, zAT, hL, cx.w]
 ·rw [zAM]
  simp (disch := first | omega | (simp only [LE]; omega)) only [h, BB, CD, Int.reduceEq, Int.reduceLE, ↓reduceIte, zAf, hL, hx.r, cx.r]
theorem pr46 (t : zIi) (h : t.Op = 46) (hok : ok t false = true) (hs : sz t ≤ 400) (ih : IH t) : Pr t := by
 obtain ⟨ho, hk, _⟩ := okD hok
 have K := Kids.mk' hs (by rw [h]; decide) hok ih
 rw [nd, h] at ho hk
 simp only [Bool.and_eq_true, Bool.or_eq_true] at ho hk
 have hW := up_LW ho.2
 have hS := hW.p
 obtain ⟨x, hL, hx, hzz, hm, hb⟩ := kid1 K hk
 have cx := hx.pc (by omega) 0
 have := zBZ t
 have := hW.2
 have := hx.l1
 have := hx.l2
 refine mkP t ([[115, 116, 114, 117, 99, 116, 117, 114, 101]] ++ ([t.S] ++ ([[61]] ++ PT x))) ([115, 116, 114, 117, 99, 116, 117, 114, 101] ++ 32 :: (t.S ++ 32 :: ([61] ++ 32 :: QT x))) hs (G2 (G1 (zAd rfl)) (G2 (G1 hS) (G2 (G1 (zAd rfl)) (hx.g)))) ?_ ?_ (fun l g hl hf => ?_) (fun g hf => ?_)
 ·first | omega | (simp only [LE]; omega)
 ·first | omega | (simp only [LE]; omega)
 ·rw [zAH]
  simp (disch := first | omega | (simp only [LE]; omega)) only [h, BB, CD, Int.reduceEq, Int.reduceLE, ↓reduceIte, zAI, zAT, hL, cx.w]
 ·rw [zAM]
  simp (disch := first | omega | (simp only [LE]; omega)) only [h, BB, CD, Int.reduceEq, Int.reduceLE, ↓reduceIte, zAf, hL, hx.r, cx.r]
theorem pr47 (t : zIi) (h : t.Op = 47) (hok : ok t false = true) (hs : sz t ≤ 400) (ih : IH t) : Pr t := by
 obtain ⟨ho, hk, _⟩ := okD hok
 have K := Kids.mk' hs (by rw [h]; decide) hok ih
 rw [nd, h] at ho hk
 simp only [Bool.and_eq_true, Bool.or_eq_true] at ho hk
 have hW := up_LW ho.2
 have hS := hW.p
 obtain ⟨x, hL, hx, hzz, hm, hb⟩ := kid1 K hk
 have cx := hx.pc (by omega) 0
 have := zBZ t
 have := hW.2
 have := hx.l1
 have := hx.l2
 refine mkP t ([[115, 105, 103, 110, 97, 116, 117, 114, 101]] ++ ([t.S] ++ ([[61]] ++ PT x))) ([115, 105, 103, 110, 97, 116, 117, 114, 101] ++ 32 :: (t.S ++ 32 :: ([61] ++ 32 :: QT x))) hs (G2 (G1 (zAd rfl)) (G2 (G1 hS) (G2 (G1 (zAd rfl)) (hx.g)))) ?_ ?_ (fun l g hl hf => ?_) (fun g hf => ?_)
 ·first | omega | (simp only [LE]; omega)
 ·first | omega | (simp only [LE]; omega)
 ·rw [zAH]
  simp (disch := first | omega | (simp only [LE]; omega)) only [h, BB, CD, Int.reduceEq, Int.reduceLE, ↓reduceIte, zAI, zAT, hL, cx.w]
 ·rw [zAM]
  simp (disch := first | omega | (simp only [LE]; omega)) only [h, BB, CD, Int.reduceEq, Int.reduceLE, ↓reduceIte, zAf, hL, hx.r, cx.r]
theorem pr64 (t : zIi) (h : t.Op = 64) (hok : ok t false = true) (hs : sz t ≤ 400) (ih : IH t) : Pr t := by
 obtain ⟨ho, hk, _⟩ := okD hok
 have K := Kids.mk' hs (by rw [h]; decide) hok ih
 rw [nd, h] at ho hk
 simp only [Bool.and_eq_true, Bool.or_eq_true] at ho hk
 have hW := up_LW ho.2
 have hS := hW.p
 obtain ⟨x, hL, hx, hzz, hm, hb⟩ := kid1 K hk
 have cx := hx.pc (by omega) 0
 have := zBZ t
 have := hW.2
 have := hx.l1
 have := hx.l2
 refine mkP t ([[115, 105, 103, 110, 97, 116, 117, 114, 101]] ++ ([t.S] ++ ([[61]] ++ PT x))) ([115, 105, 103, 110, 97, 116, 117, 114, 101] ++ 32 :: (t.S ++ 32 :: ([61] ++ 32 :: QT x))) hs (G2 (G1 (zAd rfl)) (G2 (G1 hS) (G2 (G1 (zAd rfl)) (hx.g)))) ?_ ?_ (fun l g hl hf => ?_) (fun g hf => ?_)
 ·first | omega | (simp only [LE]; omega)
 ·first | omega | (simp only [LE]; omega)
 ·rw [zAH]
  simp (disch := first | omega | (simp only [LE]; omega)) only [h, BB, CD, Int.reduceEq, Int.reduceLE, ↓reduceIte, zAI, zAT, zAY, hL, cx.w]
 ·rw [zAM]
  simp (disch := first | omega | (simp only [LE]; omega)) only [h, BB, CD, Int.reduceEq, Int.reduceLE, ↓reduceIte, zAf, hL, hx.r, cx.r]
theorem pr48 (t : zIi) (h : t.Op = 48) (hok : ok t false = true) (hs : sz t ≤ 400) (ih : IH t) : Pr t := by
 obtain ⟨ho, hk, _⟩ := okD hok
 have K := Kids.mk' hs (by rw [h]; decide) hok ih
 rw [nd, h] at ho hk
 simp only [Bool.and_eq_true, Bool.or_eq_true] at ho hk
 have hP := zFT ho.2
 have hm := K.m
 have := zBZ t
 have := hP.2.1
 have := hP.2.2
 refine mkP t ([[111, 112, 101, 110]] ++ [Lib.join t.Names [46]]) ([111, 112, 101, 110] ++ 32 :: (Lib.join t.Names [46])) hs (G2 (G1 (zAd rfl)) (G1 hP.1)) ?_ ?_ (fun l g hl hf => ?_) (fun g hf => ?_)
 ·first | omega | (simp only [LE]; omega)
 ·first | omega | (simp only [LE]; omega)
 ·rw [zAH]
  simp (disch := first | omega | (simp only [LE]; omega)) only [h, BB, CD, Int.reduceEq, Int.reduceLE, ↓reduceIte, zAI, zAT, ppath hP.2.1 hP.2.2]
 ·rw [zAM]
  simp (disch := first | omega | (simp only [LE]; omega)) only [h, BB, CD, Int.reduceEq, Int.reduceLE, ↓reduceIte, zAf, zFz hP.2.1 hP.2.2]
theorem pr49 (t : zIi) (h : t.Op = 49) (hok : ok t false = true) (hs : sz t ≤ 400) (ih : IH t) : Pr t := by
 obtain ⟨ho, hk, _⟩ := okD hok
 have K := Kids.mk' hs (by rw [h]; decide) hok ih
 rw [nd, h] at ho hk
 simp only [Bool.and_eq_true, Bool.or_eq_true] at ho hk
 have hP := zFT ho.2
 have hm := K.m
 have := zBZ t
 have := hP.2.1
 have := hP.2.2
 refine mkP t ([[105, 110, 99, 108, 117, 100, 101]] ++ [Lib.join t.Names [46]]) ([105, 110, 99, 108, 117, 100, 101] ++ 32 :: (Lib.join t.Names [46])) hs (G2 (G1 (zAd rfl)) (G1 hP.1)) ?_ ?_ (fun l g hl hf => ?_) (fun g hf => ?_)
 ·first | omega | (simp only [LE]; omega)
 ·first | omega | (simp only [LE]; omega)
 ·rw [zAH]
  simp (disch := first | omega | (simp only [LE]; omega)) only [h, BB, CD, Int.reduceEq, Int.reduceLE, ↓reduceIte, zAI, zAT, ppath hP.2.1 hP.2.2]
 ·rw [zAM]
  simp (disch := first | omega | (simp only [LE]; omega)) only [h, BB, CD, Int.reduceEq, Int.reduceLE, ↓reduceIte, zAf, zFz hP.2.1 hP.2.2]
theorem pr50 (t : zIi) (h : t.Op = 50) (hok : ok t false = true) (hs : sz t ≤ 400) (ih : IH t) : Pr t := by
 obtain ⟨ho, hk, _⟩ := okD hok
 have K := Kids.mk' hs (by rw [h]; decide) hok ih
 rw [nd, h] at ho hk
 simp only [Bool.and_eq_true, Bool.or_eq_true] at ho hk
 have hW := up_LW ho.2
 have hS := hW.p
 obtain ⟨x, y, hL, hx, hy, hzz, hm⟩ := kid2 K hk
 have cx := hx.pc (by omega) 9
 have cy := hy.pc (by omega) 2
 have := zBZ t
 have := hW.2
 have := cx.l1
 have := cx.l2
 have := cy.l1
 have := cy.l2
 refine mkP t ([[115, 116, 114, 117, 99, 116, 117, 114, 101]] ++ ([t.S] ++ ([[61]] ++ ([[117, 110, 112, 97, 99, 107]] ++ (PP x 9 ++ ([[58]] ++ PP y 2)))))) ([115, 116, 114, 117, 99, 116, 117, 114, 101] ++ 32 :: (t.S ++ 32 :: ([61] ++ 32 :: ([117, 110, 112, 97, 99, 107] ++ 32 :: (QP x 9 ++ 32 :: ([58] ++ 32 :: QP y 2)))))) hs (G2 (G1 (zAd rfl)) (G2 (G1 hS) (G2 (G1 (zAd rfl)) (G2 (G1 (zAd rfl)) (G2 (cx.g) (G2 (G1 (zAd rfl)) (cy.g))))))) ?_ ?_ (fun l g hl hf => ?_) (fun g hf => ?_)
 ·first | omega | (simp only [LE]; omega)
 ·first | omega | (simp only [LE]; omega)
 ·rw [zAH]
  simp (disch := first | omega | (simp only [LE]; omega)) only [h, BB, CD, Int.reduceEq, Int.reduceLE, ↓reduceIte, zAI, zAT, zBq, hL, cx.w, cy.w]
 ·rw [zAM]
  simp (disch := first | omega | (simp only [LE]; omega)) only [h, BB, CD, Int.reduceEq, Int.reduceLE, ↓reduceIte, zAf, hL, cx.r, cy.r]
theorem pr61 (t : zIi) (h : t.Op = 61) (hok : ok t false = true) (hs : sz t ≤ 400) (ih : IH t) : Pr t := by
 obtain ⟨ho, hk, _⟩ := okD hok
 have K := Kids.mk' hs (by rw [h]; decide) hok ih
 rw [nd, h] at ho hk
 simp only [Bool.and_eq_true, Bool.or_eq_true] at ho hk
 have hW := lo_LW ho.2
 have hS := hW.p
 obtain ⟨x, hL, hx, hzz, hm, hb⟩ := kid1 K hk
 have cx := hx.pc (by omega) 0
 have := zBZ t
 have := hW.2
 have := hx.l1
 have := hx.l2
 refine mkP t ([[118, 97, 108]] ++ ([t.S] ++ ([[58]] ++ PT x))) ([118, 97, 108] ++ 32 :: (t.S ++ 32 :: ([58] ++ 32 :: QT x))) hs (G2 (G1 (zAd rfl)) (G2 (G1 hS) (G2 (G1 (zAd rfl)) (hx.g)))) ?_ ?_ (fun l g hl hf => ?_) (fun g hf => ?_)
 ·first | omega | (simp only [LE]; omega)
 ·first | omega | (simp only [LE]; omega)
 ·rw [zAH]
  simp (disch := first | omega | (simp only [LE]; omega)) only [h, BB, CD, Int.reduceEq, Int.reduceLE, ↓reduceIte, zAI, zAT, zAY, hL, cx.w]
 ·rw [zAM]
  simp (disch := first | omega | (simp only [LE]; omega)) only [h, BB, CD, Int.reduceEq, Int.reduceLE, ↓reduceIte, zAf, hL, hx.r, cx.r]
theorem pr63 (t : zIi) (h : t.Op = 63) (hok : ok t false = true) (hs : sz t ≤ 400) (ih : IH t) : Pr t := by
 obtain ⟨ho, hk, _⟩ := okD hok
 have K := Kids.mk' hs (by rw [h]; decide) hok ih
 rw [nd, h] at ho hk
 simp only [Bool.and_eq_true, Bool.or_eq_true] at ho hk
 have hW := up_LW ho.2
 have hS := hW.p
 obtain ⟨x, hL, hx, hzz, hm, hb⟩ := kid1 K hk
 have cx := hx.pc (by omega) 0
 have := zBZ t
 have := hW.2
 have := hx.l1
 have := hx.l2
 refine mkP t ([[115, 116, 114, 117, 99, 116, 117, 114, 101]] ++ ([t.S] ++ ([[58]] ++ PT x))) ([115, 116, 114, 117, 99, 116, 117, 114, 101] ++ 32 :: (t.S ++ 32 :: ([58] ++ 32 :: QT x))) hs (G2 (G1 (zAd rfl)) (G2 (G1 hS) (G2 (G1 (zAd rfl)) (hx.g)))) ?_ ?_ (fun l g hl hf => ?_) (fun g hf => ?_)
 ·first | omega | (simp only [LE]; omega)
 ·first | omega | (simp only [LE]; omega)
 ·rw [zAH]
  simp (disch := first | omega | (simp only [LE]; omega)) only [h, BB, CD, Int.reduceEq, Int.reduceLE, ↓reduceIte, zAI, zAT, zAY, hL, cx.w]
 ·rw [zAM]
  simp (disch := first | omega | (simp only [LE]; omega)) only [h, BB, CD, Int.reduceEq, Int.reduceLE, ↓reduceIte, zAf, hL, hx.r, cx.r]
theorem pr65 (t : zIi) (h : t.Op = 65) (hok : ok t false = true) (hs : sz t ≤ 400) (ih : IH t) : Pr t := by
 obtain ⟨ho, hk, _⟩ := okD hok
 have K := Kids.mk' hs (by rw [h]; decide) hok ih
 rw [nd, h] at ho hk
 simp only [Bool.and_eq_true, Bool.or_eq_true] at ho hk
 obtain ⟨x, hL, hx, hzz, hm, hb⟩ := kid1 K hk
 have cx := hx.pc (by omega) 0
 have := zBZ t
 have := hx.l1
 have := hx.l2
 refine mkP t ([[105, 110, 99, 108, 117, 100, 101]] ++ PT x) ([105, 110, 99, 108, 117, 100, 101] ++ 32 :: QT x) hs (G2 (G1 (zAd rfl)) (hx.g)) ?_ ?_ (fun l g hl hf => ?_) (fun g hf => ?_)
 ·first | omega | (simp only [LE]; omega)
 ·first | omega | (simp only [LE]; omega)
 ·rw [zAH]
  simp (disch := first | omega | (simp only [LE]; omega)) only [h, BB, CD, Int.reduceEq, Int.reduceLE, ↓reduceIte, zAI, zAT, zAY, hL, cx.w]
 ·rw [zAM]
  simp (disch := first | omega | (simp only [LE]; omega)) only [h, BB, CD, Int.reduceEq, Int.reduceLE, ↓reduceIte, zAf, hL, hx.r, cx.r]
theorem pr72 (t : zIi) (h : t.Op = 72) (hok : ok t false = true) (hs : sz t ≤ 400) (ih : IH t) : Pr t := by
 obtain ⟨ho, hk, _⟩ := okD hok
 have K := Kids.mk' hs (by rw [h]; decide) hok ih
 rw [nd, h] at ho hk
 simp only [Bool.and_eq_true, Bool.or_eq_true] at ho hk
 have hP := zFT ho.2
 have hm := K.m
 have := zBZ t
 have := hP.2.1
 have := hP.2.2
 refine mkP t [Lib.join t.Names [46]] (Lib.join t.Names [46]) hs (G1 hP.1) ?_ ?_ (fun l g hl hf => ?_) (fun g hf => ?_)
 ·first | omega | (simp only [LE]; omega)
 ·first | omega | (simp only [LE]; omega)
 ·rw [zAH]
  simp (disch := first | omega | (simp only [LE]; omega)) only [h, BB, CD, Int.reduceEq, Int.reduceLE, ↓reduceIte, ppath hP.2.1 hP.2.2]
 ·rw [zAM]
  simp (disch := first | omega | (simp only [LE]; omega)) only [h, BB, CD, Int.reduceEq, Int.reduceLE, ↓reduceIte, zBU, zFz hP.2.1 hP.2.2]
theorem pr82 (t : zIi) (h : t.Op = 82) (hok : ok t false = true) (hs : sz t ≤ 400) (ih : IH t) : Pr t := by
 obtain ⟨ho, hk, _⟩ := okD hok
 have K := Kids.mk' hs (by rw [h]; decide) hok ih
 rw [nd, h] at ho hk
 simp only [Bool.and_eq_true, Bool.or_eq_true] at ho hk
 have hP := zFT ho.2
 have hm := K.m
 have := zBZ t
 have := hP.2.1
 have := hP.2.2
 refine mkP t [Lib.join t.Names [46]] (Lib.join t.Names [46]) hs (G1 hP.1) ?_ ?_ (fun l g hl hf => ?_) (fun g hf => ?_)
 ·first | omega | (simp only [LE]; omega)
 ·first | omega | (simp only [LE]; omega)
 ·rw [zAH]
  simp (disch := first | omega | (simp only [LE]; omega)) only [h, BB, CD, Int.reduceEq, Int.reduceLE, ↓reduceIte, ppath hP.2.1 hP.2.2]
 ·rw [zAM]
  simp (disch := first | omega | (simp only [LE]; omega)) only [h, BB, CD, Int.reduceEq, Int.reduceLE, ↓reduceIte, zBU, zFz hP.2.1 hP.2.2]
theorem pr84 (t : zIi) (h : t.Op = 84) (hok : ok t false = true) (hs : sz t ≤ 400) (ih : IH t) : Pr t := by
 obtain ⟨ho, hk, _⟩ := okD hok
 have K := Kids.mk' hs (by rw [h]; decide) hok ih
 rw [nd, h] at ho hk
 simp only [Bool.and_eq_true, Bool.or_eq_true] at ho hk
 obtain ⟨x, y, hL, hx, hy, hzz, hm⟩ := kid2 K hk
 have cx := hx.pc (by omega) 2
 have cy := hy.pc (by omega) 0
 have := zBZ t
 have := cx.l1
 have := cx.l2
 have := hy.l1
 have := hy.l2
 refine mkP t (PP x 2 ++ ([40] :: (PT y ++ [[41]]))) (QP x 2 ++ 32 :: (40 :: (QT y ++ [41]))) hs (G2 (cx.g) (G3 (hy.g))) ?_ ?_ (fun l g hl hf => ?_) (fun g hf => ?_)
 ·first | omega | (simp only [LE]; omega)
 ·first | omega | (simp only [LE]; omega)
 ·rw [zAH]
  simp (disch := first | omega | (simp only [LE]; omega)) only [h, BB, CD, Int.reduceEq, Int.reduceLE, ↓reduceIte, zAI, zAT, zAY, hL, cx.w, cy.w]
 ·rw [zAM]
  simp (disch := first | omega | (simp only [LE]; omega)) only [h, BB, CD, Int.reduceEq, Int.reduceLE, ↓reduceIte, zBU, hL, cx.r, hy.r, cy.r]
theorem pr85 (t : zIi) (h : t.Op = 85) (hok : ok t false = true) (hs : sz t ≤ 400) (ih : IH t) : Pr t := by
 obtain ⟨ho, hk, _⟩ := okD hok
 have K := Kids.mk' hs (by rw [h]; decide) hok ih
 rw [nd, h] at ho hk
 simp only [Bool.and_eq_true, Bool.or_eq_true] at ho hk
 obtain ⟨x, y, hL, hx, hy, hzz, hm⟩ := kid2 K hk
 have cx := hx.pc (by omega) 1
 have cy := hy.pc (by omega) 2
 have := zBZ t
 have := cx.l1
 have := cx.l2
 have := cy.l1
 have := cy.l2
 refine mkP t (PP x 1 ++ ([[58, 62]] ++ PP y 2)) (QP x 1 ++ 32 :: ([58, 62] ++ 32 :: QP y 2)) hs (G2 (cx.g) (G2 (G1 (zAd rfl)) (cy.g))) ?_ ?_ (fun l g hl hf => ?_) (fun g hf => ?_)
 ·first | omega | (simp only [LE]; omega)
 ·first | omega | (simp only [LE]; omega)
 ·rw [zAH]
  simp (disch := first | omega | (simp only [LE]; omega)) only [h, BB, CD, Int.reduceEq, Int.reduceLE, ↓reduceIte, zAI, zAT, zAY, hL, cx.w, cy.w]
 ·rw [zAM]
  simp (disch := first | omega | (simp only [LE]; omega)) only [h, BB, CD, Int.reduceEq, Int.reduceLE, ↓reduceIte, zBU, hL, cx.r, cy.r]
theorem pr86 (t : zIi) (h : t.Op = 86) (hok : ok t false = true) (hs : sz t ≤ 400) (ih : IH t) : Pr t := by
 obtain ⟨ho, hk, _⟩ := okD hok
 have K := Kids.mk' hs (by rw [h]; decide) hok ih
 rw [nd, h] at ho hk
 simp only [Bool.and_eq_true, Bool.or_eq_true] at ho hk
 obtain ⟨x, y, hL, hx, hy, hzz, hm⟩ := kid2 K hk
 have cx := hx.pc (by omega) 1
 have cy := hy.pc (by omega) 2
 have := zBZ t
 have := cx.l1
 have := cx.l2
 have := cy.l1
 have := cy.l2
 refine mkP t (PP x 1 ++ ([[58]] ++ PP y 2)) (QP x 1 ++ 32 :: ([58] ++ 32 :: QP y 2)) hs (G2 (cx.g) (G2 (G1 (zAd rfl)) (cy.g))) ?_ ?_ (fun l g hl hf => ?_) (fun g hf => ?_)
 ·first | omega | (simp only [LE]; omega)
 ·first | omega | (simp only [LE]; omega)
 ·rw [zAH]
  simp (disch := first | omega | (simp only [LE]; omega)) only [h, BB, CD, Int.reduceEq, Int.reduceLE, ↓reduceIte, zAI, zAT, zAY, hL, cx.w, cy.w]
 ·rw [zAM]
  simp (disch := first | omega | (simp only [LE]; omega)) only [h, BB, CD, Int.reduceEq, Int.reduceLE, ↓reduceIte, zBU, hL, cx.r, cy.r]
theorem pr88 (t : zIi) (h : t.Op = 88) (hok : ok t false = true) (hs : sz t ≤ 400) (ih : IH t) : Pr t := by
 obtain ⟨ho, hk, _⟩ := okD hok
 have K := Kids.mk' hs (by rw [h]; decide) hok ih
 rw [nd, h] at ho hk
 simp only [Bool.and_eq_true, Bool.or_eq_true] at ho hk
 obtain ⟨x, y, hL, hx, hy, hzz, hm⟩ := kid2 K hk
 have cx := hx.pc (by omega) 9
 have cy := hy.pc (by omega) 2
 have := zBZ t
 have := cx.l1
 have := cx.l2
 have := cy.l1
 have := cy.l2
 refine mkP t ([[117, 110, 112, 97, 99, 107]] ++ (PP x 9 ++ ([[58]] ++ PP y 2))) ([117, 110, 112, 97, 99, 107] ++ 32 :: (QP x 9 ++ 32 :: ([58] ++ 32 :: QP y 2))) hs (G2 (G1 (zAd rfl)) (G2 (cx.g) (G2 (G1 (zAd rfl)) (cy.g)))) ?_ ?_ (fun l g hl hf => ?_) (fun g hf => ?_)
 ·first | omega | (simp only [LE]; omega)
 ·first | omega | (simp only [LE]; omega)
 ·rw [zAH]
  simp (disch := first | omega | (simp only [LE]; omega)) only [h, BB, CD, Int.reduceEq, Int.reduceLE, ↓reduceIte, zAI, zAT, zAY, zBq, hL, cx.w, cy.w]
 ·rw [zAM]
  simp (disch := first | omega | (simp only [LE]; omega)) only [h, BB, CD, Int.reduceEq, Int.reduceLE, ↓reduceIte, zBU, hL, cx.r, cy.r]
theorem pr2 (t : zIi) (h : t.Op = 2) (hok : ok t false = true) (hs : sz t ≤ 400) (ih : IH t) : Pr t := by
 obtain ⟨ho, hk, _⟩ := okD hok
 have K := Kids.mk' hs (by rw [h]; decide) hok ih
 rw [nd, h] at ho hk
 simp only [Bool.and_eq_true, Bool.or_eq_true] at ho hk
 have Su := K.sub
 have hsm := K.s
 have hm := K.m
 have hP := zFT ho.2
 rcases (by omega : t.L.length = 0 ∨ t.L.length = 1 ∨ 2 ≤ t.L.length) with hn | hn | hn
 ·have hL : t.L = [] := List.length_eq_zero_iff.1 hn
  have := zBZ t
  have := hP.2.1
  have := hP.2.2
  refine mkP t [Lib.join t.Names [46]] (Lib.join t.Names [46]) hs (G1 hP.1) ?_ ?_ (fun l g hl hf => ?_) (fun g hf => ?_)
  ·first | omega | (simp only [LE]; omega)
  ·first | omega | (simp only [LE]; omega)
  ·rw [zAH]
   simp (disch := first | omega | (simp only [LE]; omega)) only [h, BB, CD, Int.reduceEq, Int.reduceLE, ↓reduceIte, ppath hP.2.1 hP.2.2, hL, QL]
  ·rw [zAM]
   simp (disch := first | omega | (simp only [LE]; omega)) only [h, BB, CD, Int.reduceEq, Int.reduceLE, ↓reduceIte, zCc, zFz hP.2.1 hP.2.2, hL, QL]
 ·obtain ⟨x, hL⟩ : ∃ x, t.L = [x] := by
   match hL : t.L, hn with
   | [x], _ => exact ⟨x, rfl⟩
  have hx := K.p x (by rw [hL]; simp)
  rw [hL] at hsm hm
  simp only [List.map_cons, List.map_nil, List.sum_cons, List.sum_nil, List.length_cons, List.length_nil] at hsm hm
  have cx := hx.pc (by omega) 2
  have := zBZ t
  have := hP.2.1
  have := hP.2.2
  have := cx.l1
  have := cx.l2
  refine mkP t (PP x 2 ++ [Lib.join t.Names [46]]) (QP x 2 ++ 32 :: (Lib.join t.Names [46])) hs (G2 (cx.g) (G1 hP.1)) ?_ ?_ (fun l g hl hf => ?_) (fun g hf => ?_)
  ·first | omega | (simp only [LE]; omega)
  ·first | omega | (simp only [LE]; omega)
  ·rw [zAH]
   simp (disch := first | omega | (simp only [LE]; omega)) only [h, BB, CD, Int.reduceEq, Int.reduceLE, ↓reduceIte, ppath hP.2.1 hP.2.2, hL, LL, QL, cx.w]
  ·rw [zAM]
   simp (disch := first | omega | (simp only [LE]; omega)) only [h, BB, CD, Int.reduceEq, Int.reduceLE, ↓reduceIte, zCc, zFz hP.2.1 hP.2.2, hL, LL, QL, cx.r]
 ·have z0 : decide ((t.L.length : Int) = 0) = false := decide_eq_false (by omega)
  have z1 : decide ((t.L.length : Int) = 1) = false := decide_eq_false (by omega)
  have := zBZ t
  have := hP.2.1
  have := hP.2.2
  have := Su.l [44] 0
  have := Su.q [44, 32] 0 rfl
  refine mkP t (([40] :: ((ls [44] 0 t.L) ++ [[41]])) ++ [Lib.join t.Names [46]]) ((40 :: ((qs' [44, 32] 0 t.L) ++ [41])) ++ 32 :: (Lib.join t.Names [46])) hs (G2 (G3 (goodLs [44] [44, 32] 0 (by decide) hGc t.L (by omega) (Su.pc 0))) (G1 hP.1)) ?_ ?_ (fun l g hl hf => ?_) (fun g hf => ?_)
  ·first | omega | (simp only [LE]; omega)
  ·first | omega | (simp only [LE]; omega)
  ·rw [zAH]
   simp (disch := first | omega | (simp only [LE]; omega)) only [h, BB, CD, Int.reduceEq, Int.reduceLE, ↓reduceIte, ppath hP.2.1 hP.2.2, z0, z1, zGO Su [44] 0]
  ·rw [zAM]
   simp (disch := first | omega | (simp only [LE]; omega)) only [h, BB, CD, Int.reduceEq, Int.reduceLE, ↓reduceIte, zCc, zFz hP.2.1 hP.2.2, z0, z1, zGv Su [44, 32] 0 rfl]
theorem pr4 (t : zIi) (h : t.Op = 4) (hok : ok t false = true) (hs : sz t ≤ 400) (ih : IH t) : Pr t := by
 obtain ⟨ho, hk, _⟩ := okD hok
 have K := Kids.mk' hs (by rw [h]; decide) hok ih
 rw [nd, h] at ho hk
 simp only [Bool.and_eq_true, Bool.or_eq_true] at ho hk
 have Su := K.sub
 have hsm := K.s
 have hm := K.m
 have hn : 1 ≤ t.L.length := by have := leT hk.1; omega
 have := zBZ t
 have := Su.l [42] 2
 have := Su.q [32, 42, 32] 2 rfl
 refine mkP t (ls [42] 2 t.L) (qs' [32, 42, 32] 2 t.L) hs (goodLs [42] [32, 42, 32] 2 (by decide) hGs t.L hn (Su.pc 2)) ?_ ?_ (fun l g hl hf => ?_) (fun g hf => ?_)
 ·first | omega | (simp only [LE]; omega)
 ·first | omega | (simp only [LE]; omega)
 ·rw [zAH]
  simp (disch := first | omega | (simp only [LE]; omega)) only [h, BB, CD, Int.reduceEq, Int.reduceLE, ↓reduceIte, zGO Su [42] 2]
 ·rw [zAM]
  simp (disch := first | omega | (simp only [LE]; omega)) only [h, BB, CD, Int.reduceEq, Int.reduceLE, ↓reduceIte, zCc, zGv Su [32, 42, 32] 2 rfl]
theorem pr44 (t : zIi) (h : t.Op = 44) (hok : ok t false = true) (hs : sz t ≤ 400) (ih : IH t) : Pr t := by
 obtain ⟨ho, hk, _⟩ := okD hok
 have K := Kids.mk' hs (by rw [h]; decide) hok ih
 rw [nd, h] at ho hk
 simp only [Bool.and_eq_true, Bool.or_eq_true] at ho hk
 have Su := K.sub
 have hsm := K.s
 have hm := K.m
 have hW := lo_LW ho.2.1
 have hS := hW.p
 have hp := prm_ok ho.2.2
 have hn : 1 ≤ t.L.length := by have := leT hk.1; omega
 have := zBZ t
 have := Su.l [124] 0
 have := Su.q [32, 124, 32] 0 rfl
 have := hW.2
 have := pt_len hp.1
 have := pq_len hp.1 hp.2
 refine mkP t ([[100, 97, 116, 97]] ++ (pt t.Names ++ ([t.S] ++ ([[61]] ++ (ls [124] 0 t.L))))) ([100, 97, 116, 97] ++ 32 :: (pq t.Names ++ (t.S ++ 32 :: ([61] ++ 32 :: (qs' [32, 124, 32] 0 t.L))))) hs (G2 (G1 (zAd rfl)) (parG hp.2 (G2 (G1 hS) (G2 (G1 (zAd rfl)) (goodLs [124] [32, 124, 32] 0 (by decide) hGb t.L hn (Su.pc 0)))))) ?_ ?_ (fun l g hl hf => ?_) (fun g hf => ?_)
 ·first | omega | (simp only [LE]; omega)
 ·first | omega | (simp only [LE]; omega)
 ·rw [zAH]
  simp (disch := first | omega | (simp only [LE]; omega)) only [h, BB, CD, Int.reduceEq, Int.reduceLE, ↓reduceIte, zAI, zAT, zGO Su [124] 0, par_M hp.1]
 ·rw [zAM]
  simp (disch := first | omega | (simp only [LE]; omega)) only [h, BB, CD, Int.reduceEq, Int.reduceLE, ↓reduceIte, zAf, zGv Su [32, 124, 32] 0 rfl, rpar_M hp.1 hp.2]
theorem pr15 (t : zIi) (h : t.Op = 15) (hok : ok t false = true) (hs : sz t ≤ 400) (ih : IH t) : Pr t := by
 obtain ⟨ho, hk, _⟩ := okD hok
 have K := Kids.mk' hs (by rw [h]; decide) hok ih
 rw [nd, h] at ho hk
 simp only [Bool.and_eq_true, Bool.or_eq_true] at ho hk
 have Su := K.sub
 have hsm := K.s
 have hm := K.m
 rcases Nat.eq_zero_or_pos t.L.length with hn | hn
 ·have hL : t.L = [] := List.length_eq_zero_iff.1 hn
  have Su0 : Sub t [] := by rw [← hL]; exact Su
  have := zBZ t
  refine mkP t [[40], [41]] [40, 41] hs (G5) ?_ ?_ (fun l g hl hf => ?_) (fun g hf => ?_)
  ·first | omega | (simp only [LE]; omega)
  ·first | omega | (simp only [LE]; omega)
  ·rw [zAH]
   simp (disch := first | omega | (simp only [LE]; omega)) only [h, BB, CD, Int.reduceEq, Int.reduceLE, ↓reduceIte, hL, QL, zGO Su0 [44] 0, ls]
  ·rw [zAM]
   simp (disch := first | omega | (simp only [LE]; omega)) only [h, BB, CD, Int.reduceEq, Int.reduceLE, ↓reduceIte, zAW, hL, QL, zGv Su0 [44, 32] 0 rfl, qs']
 ·have := zBZ t
  have := Su.l [44] 0
  have := Su.q [44, 32] 0 rfl
  refine mkP t ([40] :: ((ls [44] 0 t.L) ++ [[41]])) (40 :: ((qs' [44, 32] 0 t.L) ++ [41])) hs (G3 (goodLs [44] [44, 32] 0 (by decide) hGc t.L hn (Su.pc 0))) ?_ ?_ (fun l g hl hf => ?_) (fun g hf => ?_)
  ·first | omega | (simp only [LE]; omega)
  ·first | omega | (simp only [LE]; omega)
  ·rw [zAH]
   simp (disch := first | omega | (simp only [LE]; omega)) only [h, BB, CD, Int.reduceEq, Int.reduceLE, ↓reduceIte, zGO Su [44] 0]
  ·rw [zAM]
   simp (disch := first | omega | (simp only [LE]; omega)) only [h, BB, CD, Int.reduceEq, Int.reduceLE, ↓reduceIte, zAW, zGv Su [44, 32] 0 rfl]
theorem pr27 (t : zIi) (h : t.Op = 27) (hok : ok t false = true) (hs : sz t ≤ 400) (ih : IH t) : Pr t := by
 obtain ⟨ho, hk, _⟩ := okD hok
 have K := Kids.mk' hs (by rw [h]; decide) hok ih
 rw [nd, h] at ho hk
 simp only [Bool.and_eq_true, Bool.or_eq_true] at ho hk
 have Su := K.sub
 have hsm := K.s
 have hm := K.m
 rcases Nat.eq_zero_or_pos t.L.length with hn | hn
 ·have hL : t.L = [] := List.length_eq_zero_iff.1 hn
  have Su0 : Sub t [] := by rw [← hL]; exact Su
  have := zBZ t
  refine mkP t [[40], [41]] [40, 41] hs (G5) ?_ ?_ (fun l g hl hf => ?_) (fun g hf => ?_)
  ·first | omega | (simp only [LE]; omega)
  ·first | omega | (simp only [LE]; omega)
  ·rw [zAH]
   simp (disch := first | omega | (simp only [LE]; omega)) only [h, BB, CD, Int.reduceEq, Int.reduceLE, ↓reduceIte, zAI, hL, QL, zGO Su0 [44] 0, ls]
  ·rw [zAM]
   simp (disch := first | omega | (simp only [LE]; omega)) only [h, BB, CD, Int.reduceEq, Int.reduceLE, ↓reduceIte, zAW, hL, QL, zGv Su0 [44, 32] 0 rfl, qs']
 ·have := zBZ t
  have := Su.l [44] 0
  have := Su.q [44, 32] 0 rfl
  refine mkP t ([40] :: ((ls [44] 0 t.L) ++ [[41]])) (40 :: ((qs' [44, 32] 0 t.L) ++ [41])) hs (G3 (goodLs [44] [44, 32] 0 (by decide) hGc t.L hn (Su.pc 0))) ?_ ?_ (fun l g hl hf => ?_) (fun g hf => ?_)
  ·first | omega | (simp only [LE]; omega)
  ·first | omega | (simp only [LE]; omega)
  ·rw [zAH]
   simp (disch := first | omega | (simp only [LE]; omega)) only [h, BB, CD, Int.reduceEq, Int.reduceLE, ↓reduceIte, zAI, zGO Su [44] 0]
  ·rw [zAM]
   simp (disch := first | omega | (simp only [LE]; omega)) only [h, BB, CD, Int.reduceEq, Int.reduceLE, ↓reduceIte, zAW, zGv Su [44, 32] 0 rfl]
theorem dec_head : ∀ (k n : Nat), n ≤ k → ∃ c r, Lib.decDigits n = c :: r ∧ 48 ≤ c.toNat ∧ c.toNat ≤ 57 := by
 intro k
 induction k with
 | zero =>
  intro n h
  rw [Lib.decDigits, dif_pos (by omega)]
  exact ⟨_, [], rfl, by rw [show n = 0 by omega]; decide, by rw [show n = 0 by omega]; decide⟩
 | succ k ih =>
  intro n h
  rw [Lib.decDigits]
  split
  ·exact ⟨_, [], rfl, by simp; omega, by simp; omega⟩
  ·obtain ⟨c, r, h1, h2⟩ := ih (n / 10) (by omega)
   exact ⟨c, r ++ [UInt8.ofNat (48 + n % 10)], by rw [h1]; rfl, h2⟩
theorem dec_pl (n : Nat) : plT (Lib.decDigits n) := by
 obtain ⟨c, r, h1, h2, h3⟩ := dec_head n n (Nat.le_refl _)
 rw [h1]
 refine ⟨?_, ?_, ?_, ?_⟩ <;> (intro e; injection e with e1 e2; subst e1; revert h2 h3; decide)
theorem itoa_M (n : Nat) (h : n < 10000000000000000) : zDg (n : Int) = some (Lib.decDigits n) := by
 have := zH7 n h
 have e : Lib.itoa (n : Int) = Lib.decDigits n := by unfold Lib.itoa; rw [if_neg (by omega)]; rfl
 rw [zDg, e, if_pos (by omega)]
theorem numW (n : Int) (h : 0 ≤ n) (h2 : n ≤ 4503599627370496) (w : List (List UInt8)) (hw : w.length ≤ 1500000) : zBY n ⟨w⟩ = some ⟨w ++ [Lib.decDigits n.natAbs]⟩ := by
 obtain ⟨m, rfl⟩ : ∃ m : Nat, n = m := ⟨n.toNat, by omega⟩
 rw [zBY, if_neg (show ¬ ltI (m : Int) 0 = true from fun h' => by have := ltT h'; omega), itoa_M m (by omega), zAl, put_M _ _ (by simp; omega)]; rfl
theorem numWn (n : Int) (h : n < 0) (h2 : -4503599627370496 ≤ n) (w : List (List UInt8)) (hw : w.length ≤ 1500000) : zBY n ⟨w⟩ = some ⟨w ++ [126] :: [Lib.decDigits n.natAbs]⟩ := by
 rw [zBY, if_pos (show ltI n 0 = true from decide_eq_true h), put_M _ _ (by simp; omega), zAl, chk64 (by omega) (by omega), zAl, show -n = (n.natAbs : Int) by omega, itoa_M _ (by omega), zAl, put_M _ _ (by simp; omega), zAl]
 simp
theorem numR (n : Int) (h : 0 ≤ n) (h2 : n ≤ 4503599627370496) (f : Nat) (hf : 20 ≤ f) : zDD f n = some (Lib.decDigits n.natAbs) := by
 obtain ⟨m, rfl⟩ : ∃ m : Nat, n = m := ⟨n.toNat, by omega⟩
 rw [zDD, if_neg (show ¬ ltI (m : Int) 0 = true from fun h' => by have := ltT h'; omega), digits_M 15 m (by omega) (by omega) f (by omega)]; rfl
theorem numRn (n : Int) (h : n < 0) (h2 : -4503599627370496 ≤ n) (f : Nat) (hf : 20 ≤ f) : zDD f n = some ([126, 32] ++ Lib.decDigits n.natAbs) := by
 have := zH7 n.natAbs (by omega)
 rw [zDD, if_pos (show ltI n 0 = true from decide_eq_true h), chk64 (by omega) (by omega), zAl, show 0 - n = (n.natAbs : Int) by omega, digits_M 15 n.natAbs (by omega) (by omega) f (by omega), zAl, cat1 (by simp; omega)]; rfl
theorem pr21 (t : zIi) (h : t.Op = 21) (hok : ok t false = true) (hs : sz t ≤ 400) (ih : IH t) : Pr t := by
 obtain ⟨ho, hk, _⟩ := okD hok
 have K := Kids.mk' hs (by rw [h]; decide) hok ih
 rw [nd, h] at ho hk
 simp only [Bool.and_eq_true, Bool.or_eq_true] at ho hk
 have hm := K.m
 have b1 := leT ho.2.1
 have b2 := leT ho.2.2
 have hp : plT (Lib.decDigits t.N.natAbs) := dec_pl _
 have hd := zH7 t.N.natAbs (by omega)
 have e1 := numW t.N (by omega) (by omega)
 have e2 := numR t.N (by omega) (by omega)
 have := zBZ t
 refine mkP t [Lib.decDigits t.N.natAbs] (Lib.decDigits t.N.natAbs) hs (G1 hp) ?_ ?_ (fun l g hl hf => ?_) (fun g hf => ?_)
 ·first | omega | (simp only [LE]; omega)
 ·first | omega | (simp only [LE]; omega)
 ·rw [zAH]
  simp (disch := first | omega | (simp only [LE]; omega)) only [h, BB, CD, Int.reduceEq, Int.reduceLE, ↓reduceIte, e1]
 ·rw [zAM]
  simp (disch := first | omega | (simp only [LE]; omega)) only [h, BB, CD, Int.reduceEq, Int.reduceLE, ↓reduceIte, zAW, e2]
theorem pr13 (t : zIi) (h : t.Op = 13) (hok : ok t false = true) (hs : sz t ≤ 400) (ih : IH t) : Pr t := by
 obtain ⟨ho, hk, _⟩ := okD hok
 have K := Kids.mk' hs (by rw [h]; decide) hok ih
 rw [nd, h] at ho hk
 simp only [Bool.and_eq_true, Bool.or_eq_true] at ho hk
 have hm := K.m
 have b1 := leT ho.2.1
 have b2 := leT ho.2.2
 have hp : plT (Lib.decDigits t.N.natAbs) := dec_pl _
 have hd := zH7 t.N.natAbs (by omega)
 by_cases hn : t.N < 0
 ·have e1 := numWn t.N hn (by omega)
  have e2 := numRn t.N hn (by omega)
  have := zBZ t
  refine mkP t ([[126]] ++ [Lib.decDigits t.N.natAbs]) ([126] ++ 32 :: (Lib.decDigits t.N.natAbs)) hs (G2 (G1 (zAd rfl)) (G1 hp)) ?_ ?_ (fun l g hl hf => ?_) (fun g hf => ?_)
  ·first | omega | (simp only [LE]; omega)
  ·first | omega | (simp only [LE]; omega)
  ·rw [zAH]
   simp (disch := first | omega | (simp only [LE]; omega)) only [h, BB, CD, Int.reduceEq, Int.reduceLE, ↓reduceIte, e1]
  ·rw [zAM]
   simp (disch := first | omega | (simp only [LE]; omega)) only [h, BB, CD, Int.reduceEq, Int.reduceLE, ↓reduceIte, zAW, e2]
 ·have e1 := numW t.N (by omega) (by omega)
  have e2 := numR t.N (by omega) (by omega)
  have := zBZ t
  refine mkP t [Lib.decDigits t.N.natAbs] (Lib.decDigits t.N.natAbs) hs (G1 hp) ?_ ?_ (fun l g hl hf => ?_) (fun g hf => ?_)
  ·first | omega | (simp only [LE]; omega)
  ·first | omega | (simp only [LE]; omega)
  ·rw [zAH]
   simp (disch := first | omega | (simp only [LE]; omega)) only [h, BB, CD, Int.reduceEq, Int.reduceLE, ↓reduceIte, e1]
  ·rw [zAM]
   simp (disch := first | omega | (simp only [LE]; omega)) only [h, BB, CD, Int.reduceEq, Int.reduceLE, ↓reduceIte, zAW, e2]
theorem pr14 (t : zIi) (h : t.Op = 14) (hok : ok t false = true) (hs : sz t ≤ 400) (ih : IH t) : Pr t := by
 obtain ⟨ho, hk, _⟩ := okD hok
 have K := Kids.mk' hs (by rw [h]; decide) hok ih
 rw [nd, h] at ho hk
 simp only [Bool.and_eq_true, Bool.or_eq_true] at ho hk
 have Su := K.sub
 have hsm := K.s
 have hm := K.m
 have hP := zFT ho.2
 rcases Nat.eq_zero_or_pos t.L.length with hn | hn
 ·have hL : t.L = [] := List.length_eq_zero_iff.1 hn
  have Su0 : Sub t [] := by rw [← hL]; exact Su
  have := zBZ t
  have := hP.2.1
  have := hP.2.2
  refine mkP t [Lib.join t.Names [46]] (Lib.join t.Names [46]) hs (G1 hP.1) ?_ ?_ (fun l g hl hf => ?_) (fun g hf => ?_)
  ·first | omega | (simp only [LE]; omega)
  ·first | omega | (simp only [LE]; omega)
  ·rw [zAH]
   simp (disch := first | omega | (simp only [LE]; omega)) only [h, BB, CD, Int.reduceEq, Int.reduceLE, ↓reduceIte, ppath hP.2.1 hP.2.2, hL, QL, zGO Su0 [] 1, ls]
  ·rw [zAM]
   simp (disch := first | omega | (simp only [LE]; omega)) only [h, BB, CD, Int.reduceEq, Int.reduceLE, ↓reduceIte, zAW, zFz hP.2.1 hP.2.2, hL, QL]
 ·replace hn : t.L.length = 1 := by have := leT hk.2.1; omega
  obtain ⟨x, hL⟩ : ∃ x, t.L = [x] := by
   match hL : t.L, hn with
   | [x], _ => exact ⟨x, rfl⟩
  have hx := K.p x (by rw [hL]; simp)
  rw [hL] at hsm hm
  simp only [List.map_cons, List.map_nil, List.sum_cons, List.sum_nil, List.length_cons, List.length_nil] at hsm hm
  have cx := hx.pc (by omega) 1
  have Su1 : Sub t [x] := by rw [← hL]; exact Su
  have := zBZ t
  have := hP.2.1
  have := hP.2.2
  have := cx.l1
  have := cx.l2
  have := Su1.l [] 1
  have := Su1.s
  refine mkP t ([Lib.join t.Names [46]] ++ PP x 1) ((Lib.join t.Names [46]) ++ 32 :: QP x 1) hs (G2 (G1 hP.1) (cx.g)) ?_ ?_ (fun l g hl hf => ?_) (fun g hf => ?_)
  ·first | omega | (simp only [LE]; omega)
  ·first | omega | (simp only [LE]; omega)
  ·rw [zAH]
   simp (disch := first | omega | (simp only [LE]; omega)) only [h, BB, CD, Int.reduceEq, Int.reduceLE, ↓reduceIte, ppath hP.2.1 hP.2.2, hL, QL, zGO Su1 [] 1, ls, lt, List.map_nil, List.flatten_nil]
  ·rw [zAM]
   simp (disch := first | omega | (simp only [LE]; omega)) only [h, BB, CD, Int.reduceEq, Int.reduceLE, ↓reduceIte, zAW, zFz hP.2.1 hP.2.2, hL, QL, cx.r]
theorem pr22 (t : zIi) (h : t.Op = 22) (hok : ok t false = true) (hs : sz t ≤ 400) (ih : IH t) : Pr t := by
 obtain ⟨ho, hk, _⟩ := okD hok
 have K := Kids.mk' hs (by rw [h]; decide) hok ih
 rw [nd, h] at ho hk
 simp only [Bool.and_eq_true, Bool.or_eq_true] at ho hk
 have hm := K.m
 have ho2 := plS_okc ho.2
 have hql := qs_len t.S
 have q1 : ∀ f, t.S.length + 1 ≤ f → zD5 f t.S = some (34 :: (qs t.S ++ [34]), 0) := fun f hf => by rw [Quote_M ho2.2 hf, ho2.1]; rfl
 have q2 : ∀ f, t.S.length + 1 ≤ f → zD3 f t.S = some (34 :: (qs t.S ++ [34])) := fun f hf => RQuote_M t.S (by omega) hf
 have hp : plT (34 :: (qs t.S ++ [34])) := by
  refine ⟨?_, ?_, ?_, ?_⟩ <;> (intro e; injection e with e1; revert e1; decide)
 have := zBZ t
 have := ho2.2
 refine mkP t [34 :: (qs t.S ++ [34])] (34 :: (qs t.S ++ [34])) hs (G1 hp) ?_ ?_ (fun l g hl hf => ?_) (fun g hf => ?_)
 ·first | omega | (simp only [LE]; omega)
 ·first | omega | (simp only [LE]; omega)
 ·rw [zAH]
  simp (disch := first | omega | (simp only [LE]; omega)) only [h, BB, CD, Int.reduceEq, Int.reduceLE, ↓reduceIte, q1]
 ·rw [zAM]
  simp (disch := first | omega | (simp only [LE]; omega)) only [h, BB, CD, Int.reduceEq, Int.reduceLE, ↓reduceIte, zAW, q2]
theorem pr25 (t : zIi) (h : t.Op = 25) (hok : ok t false = true) (hs : sz t ≤ 400) (ih : IH t) : Pr t := by
 obtain ⟨ho, hk, _⟩ := okD hok
 have K := Kids.mk' hs (by rw [h]; decide) hok ih
 rw [nd, h] at ho hk
 simp only [Bool.and_eq_true, Bool.or_eq_true] at ho hk
 obtain ⟨x, hL, hx, hzz, hm, hb⟩ := kid1 K hk
 have cx := hx.pc (by omega) 0
 cases hS0 : eqS t.S []
 ·have hl : loS t.S = true := by
   rcases ho.2 with h | h
   ·rw [h] at hS0; cases hS0
   ·exact h
  have hW := lo_LW hl
  have hS := hW.p
  have := zBZ t
  have := hx.l1
  have := hx.l2
  have := hW.2
  refine mkP t ([[102, 110]] ++ ([t.S] ++ ([[61, 62]] ++ PT x))) ([102, 110] ++ 32 :: (t.S ++ 32 :: ([61, 62] ++ 32 :: QT x))) hs (G2 (G1 (zAd rfl)) (G2 (G1 hS) (G2 (G1 (zAd rfl)) (hx.g)))) ?_ ?_ (fun l g hl hf => ?_) (fun g hf => ?_)
  ·first | omega | (simp only [LE]; omega)
  ·first | omega | (simp only [LE]; omega)
  ·rw [zAH]
   simp (disch := first | omega | (simp only [LE]; omega)) only [h, BB, CD, Int.reduceEq, Int.reduceLE, ↓reduceIte, zAI, hL, cx.w, hS0]
  ·rw [zAM]
   simp (disch := first | omega | (simp only [LE]; omega)) only [h, BB, CD, Int.reduceEq, Int.reduceLE, ↓reduceIte, zAW, hL, hx.r, cx.r, hS0]
 ·have := zBZ t
  have := hx.l1
  have := hx.l2
  refine mkP t ([[102, 110]] ++ ([[95]] ++ ([[61, 62]] ++ PT x))) ([102, 110] ++ 32 :: ([95] ++ 32 :: ([61, 62] ++ 32 :: QT x))) hs (G2 (G1 (zAd rfl)) (G2 (G1 (zAd rfl)) (G2 (G1 (zAd rfl)) (hx.g)))) ?_ ?_ (fun l g hl hf => ?_) (fun g hf => ?_)
  ·first | omega | (simp only [LE]; omega)
  ·first | omega | (simp only [LE]; omega)
  ·rw [zAH]
   simp (disch := first | omega | (simp only [LE]; omega)) only [h, BB, CD, Int.reduceEq, Int.reduceLE, ↓reduceIte, zAI, hL, cx.w, hS0]
  ·rw [zAM]
   simp (disch := first | omega | (simp only [LE]; omega)) only [h, BB, CD, Int.reduceEq, Int.reduceLE, ↓reduceIte, zAW, hL, hx.r, cx.r, hS0]
theorem if_loop (F : zIi → Int → zIg → Option zIg) (t x y z : zIi) (hL : t.L = [x, y, z]) (a b c : List (List UInt8))
  (h1 : ∀ w : List (List UInt8), w.length + 40 * sz x ≤ 1000000 → F x 0 ⟨w⟩ = some ⟨w ++ a⟩) (h2 : ∀ w : List (List UInt8), w.length + 40 * sz y ≤ 1000000 → F y 0 ⟨w⟩ = some ⟨w ++ b⟩) (h3 : ∀ w : List (List UInt8), w.length + 40 * sz z ≤ 1000000 → F z 0 ⟨w⟩ = some ⟨w ++ c⟩)
  (w : List (List UInt8)) (k : Nat) (hk : 4 ≤ k) (ha : a.length ≤ 40 * sz x) (hb : b.length ≤ 40 * sz y) (hc : c.length ≤ 40 * sz z) (hw : w.length + 40 * sz x + 40 * sz y + 40 * sz z + 3 ≤ 1000000) :
  zAr F t [[105, 102], [116, 104, 101, 110], [101, 108, 115, 101]] k w 0 = some (w ++ [105, 102] :: (a ++ [116, 104, 101, 110] :: (b ++ [101, 108, 115, 101] :: c))) := by
 obtain ⟨g, rfl⟩ : ∃ g, k = g + 4 := ⟨k - 4, by omega⟩
 rw [zAr, if_pos if3.1, List.getElem?_cons_zero, zAl, put_M _ _ (by simp; omega), zAl, hL, List.getElem?_cons_zero, zAl, h1 _ (by simp; omega), zAl,
  zAr, if_pos if3.2.1, List.getElem?_cons_succ, List.getElem?_cons_zero, zAl, put_M _ _ (by simp; omega), zAl, hL, List.getElem?_cons_succ, List.getElem?_cons_zero, zAl, h2 _ (by simp; omega), zAl,
  zAr, if_pos if3.2.2.1, List.getElem?_cons_succ, List.getElem?_cons_succ, List.getElem?_cons_zero, zAl, put_M _ _ (by simp; omega), zAl, hL, List.getElem?_cons_succ, List.getElem?_cons_succ, List.getElem?_cons_zero, zAl, h3 _ (by simp; omega), zAl,
  zAr, if_neg (show ¬ _ = true from fun e => by rw [if3.2.2.2] at e; cases e)]
 simp
theorem pr28 (t : zIi) (h : t.Op = 28) (hok : ok t false = true) (hs : sz t ≤ 400) (ih : IH t) : Pr t := by
 obtain ⟨ho, hk, _⟩ := okD hok
 have K := Kids.mk' hs (by rw [h]; decide) hok ih
 rw [nd, h] at ho hk
 simp only [Bool.and_eq_true, Bool.or_eq_true] at ho hk
 obtain ⟨x, y, z, hL, hx, hy, hz, hzz, hm⟩ := kid3 K hk
 have hmx := K.mz x (by rw [hL]; simp)
 have hmy := K.mz y (by rw [hL]; simp)
 have hmz := K.mz z (by rw [hL]; simp)
 have cx := hx.pc (by omega) 0
 have cy := hy.pc (by omega) 0
 have cz := hz.pc (by omega) 0
 have := zBZ t
 have := hx.l1
 have := hx.l2
 have := hy.l1
 have := hy.l2
 have := hz.l1
 have := hz.l2
 refine mkP t ([[105, 102]] ++ (PT x ++ ([[116, 104, 101, 110]] ++ (PT y ++ ([[101, 108, 115, 101]] ++ PT z))))) ([105, 102] ++ 32 :: (QT x ++ 32 :: ([116, 104, 101, 110] ++ 32 :: (QT y ++ 32 :: ([101, 108, 115, 101] ++ 32 :: QT z))))) hs (G2 (G1 (zAd rfl)) (G2 (hx.g) (G2 (G1 (zAd rfl)) (G2 (hy.g) (G2 (G1 (zAd rfl)) (hz.g)))))) ?_ ?_ (fun l g hl hf => ?_) (fun g hf => ?_)
 ·first | omega | (simp only [LE]; omega)
 ·first | omega | (simp only [LE]; omega)
 ·rw [zAH]
  simp (disch := first | omega | (simp only [LE]; omega)) only [h, BB, CD, Int.reduceEq, Int.reduceLE, ↓reduceIte, zAI, if_loop (zAK (g + 8)) t x y z hL _ _ _ (fun w hw => (cx.w w (g + 8) hw (by omega)).trans (by rw [PP0])) (fun w hw => (cy.w w (g + 8) hw (by omega)).trans (by rw [PP0])) (fun w hw => (cz.w w (g + 8) hw (by omega)).trans (by rw [PP0]))]
 ·rw [zAM]
  simp (disch := first | omega | (simp only [LE]; omega)) only [h, BB, CD, Int.reduceEq, Int.reduceLE, ↓reduceIte, zAW, hL, hx.r, cx.r, hy.r, cy.r, hz.r, cz.r]
theorem pr29 (t : zIi) (h : t.Op = 29) (hok : ok t false = true) (hs : sz t ≤ 400) (ih : IH t) : Pr t := by
 obtain ⟨ho, hk, _⟩ := okD hok
 have K := Kids.mk' hs (by rw [h]; decide) hok ih
 rw [nd, h] at ho hk
 simp only [Bool.and_eq_true, Bool.or_eq_true] at ho hk
 obtain ⟨x, l, hL, hn⟩ : ∃ x l, t.L = x :: l ∧ 1 ≤ l.length := by
  match hL : t.L, hk with
  | x :: y :: r, _ => exact ⟨x, y :: r, rfl, by simp⟩
  | [], hk => exact absurd hk (by simp)
  | [_], hk => exact absurd hk (by simp)
 have hsm := K.s
 have hm := K.m
 have hx := K.p x (by rw [hL]; simp)
 have hlt := len_sz t
 rw [hL] at hsm hm hlt
 simp only [List.map_cons, List.sum_cons, List.length_cons] at hsm hm hlt
 have Su : Sub t l := ⟨fun y hy => K.p y (by rw [hL]; simp [hy]), by omega, fun y hy => K.mz y (by rw [hL]; simp [hy]), by omega, hs⟩
 have cx := hx.pc (by omega) 0
 have := zBZ t
 have := hx.l1
 have := hx.l2
 have := Su.l [124] 0
 have := Su.q [32, 124, 32] 0 rfl
 refine mkP t ([[99, 97, 115, 101]] ++ (PT x ++ ([[111, 102]] ++ (ls [124] 0 l ++ [[101, 110, 100]])))) ([99, 97, 115, 101] ++ 32 :: (QT x ++ 32 :: ([111, 102] ++ 32 :: (qs' [32, 124, 32] 0 l ++ 32 :: [101, 110, 100])))) hs (G2 (G1 (zAd rfl)) (G2 (hx.g) (G2 (G1 (zAd rfl)) (G2 (goodLs [124] [32, 124, 32] 0 (by decide) hGb l hn (Su.pc 0)) (G1 (zAd rfl)))))) ?_ ?_ (fun l g hl hf => ?_) (fun g hf => ?_)
 ·first | omega | (simp only [LE]; omega)
 ·first | omega | (simp only [LE]; omega)
 ·rw [zAH]
  simp (disch := first | omega | (simp only [LE]; omega)) only [h, BB, CD, Int.reduceEq, Int.reduceLE, ↓reduceIte, zAI, hL, sub1, cx.w, zGO Su [124] 0]
 ·rw [zAM]
  simp (disch := first | omega | (simp only [LE]; omega)) only [h, BB, CD, Int.reduceEq, Int.reduceLE, ↓reduceIte, zAW, hL, sub1, hx.r, cx.r, zGv Su [32, 124, 32] 0 rfl]
theorem pr31 (t : zIi) (h : t.Op = 31) (hok : ok t false = true) (hs : sz t ≤ 400) (ih : IH t) : Pr t := by
 obtain ⟨ho, hk, _⟩ := okD hok
 have K := Kids.mk' hs (by rw [h]; decide) hok ih
 rw [nd, h] at ho hk
 simp only [Bool.and_eq_true, Bool.or_eq_true] at ho hk
 have hn : 1 ≤ t.L.length := by have := leT hk.1; omega
 obtain ⟨y, y1, _, y3⟩ := last_of t.L hn
 obtain ⟨l, hl0⟩ : ∃ l, l = t.L.take (t.L.length - 1) := ⟨_, rfl⟩
 have e : (t.L.length : Int) - 1 = ((t.L.length - 1 : Nat) : Int) := by omega
 have e1 : subC t.L 0 ((t.L.length - 1 : Nat) : Int) = some l := by rw [subT t.L _ (by omega), hl0]
 have e2 : idx t.L ((t.L.length - 1 : Nat) : Int) = some y := by rw [idxN, y1]
 have e3 : chk .i64 ((t.L.length - 1 : Nat) : Int) = some ((t.L.length - 1 : Nat) : Int) := chk64 (by omega) (by have := len_sz t; omega)
 rw [← hl0] at y3
 have hsm := K.s
 have hm := K.m
 have hx := K.p y (by rw [y3]; simp)
 have hlt := len_sz t
 have hle : l.length ≤ t.L.length := by rw [hl0, List.length_take]; omega
 have hsp : (t.L.map sz).sum = (l.map sz).sum + sz y := by
  have := congrArg (fun l => (List.map sz l).sum) y3
  simpa using this
 have hmy := K.mz y (by rw [y3]; simp)
 have Su : Sub t l := ⟨fun z hz => K.p z (by rw [y3]; simp [hz]), by have := zBZ y; omega, fun z hz => K.mz z (by rw [y3]; simp [hz]), by omega, hs⟩
 have cx := hx.pc (by omega) 0
 have := zBZ t
 have := hx.l1
 have := hx.l2
 have := Su.l [] 0
 have := Su.w
 refine mkP t ([[108, 101, 116]] ++ (ls [] 0 l ++ ([[105, 110]] ++ (PT y ++ [[101, 110, 100]])))) ([108, 101, 116] ++ 32 :: (qw l ++ ([105, 110] ++ 32 :: (QT y ++ 32 :: [101, 110, 100])))) hs (G2 (G1 (zAd rfl)) (goodW l Su.p _ _ (G2 (G1 (zAd rfl)) (G2 (hx.g) (G1 (zAd rfl)))))) ?_ ?_ (fun l g hl hf => ?_) (fun g hf => ?_)
 ·first | omega | (simp only [LE]; omega)
 ·first | omega | (simp only [LE]; omega)
 ·rw [zAH]
  simp (disch := first | omega | (simp only [LE]; omega)) only [h, BB, CD, Int.reduceEq, Int.reduceLE, ↓reduceIte, zAI, e, e1, e2, e3, cx.w, zGO Su [] 0]
 ·rw [zAM]
  simp (disch := first | omega | (simp only [LE]; omega)) only [h, BB, CD, Int.reduceEq, Int.reduceLE, ↓reduceIte, e, e1, e2, e3, hx.r, zIF Su]
theorem pr87 (t : zIi) (h : t.Op = 87) (hok : ok t false = true) (hs : sz t ≤ 400) (ih : IH t) : Pr t := by
 obtain ⟨ho, hk, _⟩ := okD hok
 have K := Kids.mk' hs (by rw [h]; decide) hok ih
 rw [nd, h] at ho hk
 simp only [Bool.and_eq_true, Bool.or_eq_true] at ho hk
 have hn : 1 ≤ t.L.length := by have := leT hk.1; omega
 obtain ⟨y, y1, _, y3⟩ := last_of t.L hn
 obtain ⟨l, hl0⟩ : ∃ l, l = t.L.take (t.L.length - 1) := ⟨_, rfl⟩
 have e : (t.L.length : Int) - 1 = ((t.L.length - 1 : Nat) : Int) := by omega
 have e1 : subC t.L 0 ((t.L.length - 1 : Nat) : Int) = some l := by rw [subT t.L _ (by omega), hl0]
 have e2 : idx t.L ((t.L.length - 1 : Nat) : Int) = some y := by rw [idxN, y1]
 have e3 : chk .i64 ((t.L.length - 1 : Nat) : Int) = some ((t.L.length - 1 : Nat) : Int) := chk64 (by omega) (by have := len_sz t; omega)
 rw [← hl0] at y3
 have hsm := K.s
 have hm := K.m
 have hx := K.p y (by rw [y3]; simp)
 have hlt := len_sz t
 have hle : l.length ≤ t.L.length := by rw [hl0, List.length_take]; omega
 have hsp : (t.L.map sz).sum = (l.map sz).sum + sz y := by
  have := congrArg (fun l => (List.map sz l).sum) y3
  simpa using this
 have hmy := K.mz y (by rw [y3]; simp)
 have Su : Sub t l := ⟨fun z hz => K.p z (by rw [y3]; simp [hz]), by have := zBZ y; omega, fun z hz => K.mz z (by rw [y3]; simp [hz]), by omega, hs⟩
 have cx := hx.pc (by omega) 0
 have := zBZ t
 have := hx.l1
 have := hx.l2
 have := Su.l [] 0
 have := Su.w
 refine mkP t ([[108, 101, 116]] ++ (ls [] 0 l ++ ([[105, 110]] ++ (PT y ++ [[101, 110, 100]])))) ([108, 101, 116] ++ 32 :: (qw l ++ ([105, 110] ++ 32 :: (QT y ++ 32 :: [101, 110, 100])))) hs (G2 (G1 (zAd rfl)) (goodW l Su.p _ _ (G2 (G1 (zAd rfl)) (G2 (hx.g) (G1 (zAd rfl)))))) ?_ ?_ (fun l g hl hf => ?_) (fun g hf => ?_)
 ·first | omega | (simp only [LE]; omega)
 ·first | omega | (simp only [LE]; omega)
 ·rw [zAH]
  simp (disch := first | omega | (simp only [LE]; omega)) only [h, BB, CD, Int.reduceEq, Int.reduceLE, ↓reduceIte, zAI, e, e1, e2, e3, cx.w, zGO Su [] 0]
 ·rw [zAM]
  simp (disch := first | omega | (simp only [LE]; omega)) only [h, BB, CD, Int.reduceEq, Int.reduceLE, ↓reduceIte, e, e1, e2, e3, hx.r, zIF Su]
theorem pr34 (t : zIi) (h : t.Op = 34) (hok : ok t false = true) (hs : sz t ≤ 400) (ih : IH t) : Pr t := by
 obtain ⟨ho, hk, _⟩ := okD hok
 have K := Kids.mk' hs (by rw [h]; decide) hok ih
 rw [nd, h] at ho hk
 simp only [Bool.and_eq_true, Bool.or_eq_true] at ho hk
 have hP := zFT ho.2
 obtain ⟨x, hL, hx, hzz, hm, hb⟩ := kid1 K hk
 have cx := hx.pc (by omega) 2
 have hv : LV x = 2 := by
  have hx72 : x.Op = 72 := by rw [bx0] at hb; exact of_decide_eq_true hb
  unfold LV
  rw [zCI, hx72]; rfl
 have hp2 : PP x 2 = PT x := by unfold PP; rw [hv]; rfl
 have hq2 : QP x 2 = QT x := by unfold QP; rw [hv]; rfl
 have := zBZ t
 have := cx.l1
 have := cx.l2
 have := hP.2.1
 have := hP.2.2
 have := hx.l2
 refine mkP t ([40] :: (([[112, 97, 99, 107]] ++ ([Lib.join t.Names [46]] ++ ([[58]] ++ PP x 2))) ++ [[41]])) (40 :: (([112, 97, 99, 107] ++ 32 :: ((Lib.join t.Names [46]) ++ 32 :: ([58] ++ 32 :: QP x 2))) ++ [41])) hs (G3 (G2 (G1 (zAd rfl)) (G2 (G1 hP.1) (G2 (G1 (zAd rfl)) (cx.g))))) ?_ ?_ (fun l g hl hf => ?_) (fun g hf => ?_)
 ·first | omega | (simp only [LE]; omega)
 ·first | omega | (simp only [LE]; omega)
 ·rw [zAH]
  simp (disch := first | omega | (simp only [LE]; omega)) only [h, BB, CD, Int.reduceEq, Int.reduceLE, ↓reduceIte, zAI, hL, cx.w, ppath hP.2.1 hP.2.2]
 ·rw [zAM]
  simp (disch := first | omega | (simp only [LE]; omega)) only [h, BB, CD, Int.reduceEq, Int.reduceLE, ↓reduceIte, zAW, hL, hx.r, hq2, zFz hP.2.1 hP.2.2]
theorem names_ok {l : List (List UInt8)} (h : l.all loS = true) : ∀ x ∈ l, LW x := fun x hx => lo_LW (List.all_eq_true.1 h x hx)
theorem pr42 (t : zIi) (h : t.Op = 42) (hok : ok t false = true) (hs : sz t ≤ 400) (ih : IH t) : Pr t := by
 obtain ⟨ho, hk, _⟩ := okD hok
 have K := Kids.mk' hs (by rw [h]; decide) hok ih
 rw [nd, h] at ho hk
 simp only [Bool.and_eq_true, Bool.or_eq_true] at ho hk
 have hW := lo_LW ho.2.1
 have hS := hW.p
 obtain ⟨x, hL, hx, hzz, hm, hb⟩ := kid1 K hk
 have cx := hx.pc (by omega) 0
 have hn1 : t.Names.length ≤ 9 := by have := leT ho.2.2.2.1; omega
 have hn2 : 1 ≤ t.Names.length := by have := leT ho.2.2.1; omega
 have hN := names_ok (l := t.Names) (by simpa using ho.2.2.2.2)
 obtain ⟨u, r, hNe⟩ : ∃ u r, t.Names = u :: r := by
  match hq : t.Names, hn2 with
  | u :: r, _ => exact ⟨u, r, rfl⟩
 rw [hNe] at hN hn1
 rw [List.length_cons] at hn1
 have hu := hN u (by simp)
 have hj := joinLen [32] (by simp) r (fun y hy => hN y (by simp [hy]))
 have hG := namG r [u] u (fun y hy => hN y (by simp [hy])) (G1 hu.p)
 have hJ : ∀ f, 20 ≤ f → zCs f (u :: r) [32] = some (u ++ Lib.joinTail [32] r) := fun f hf => by
  rw [zIT (u :: r) [32] (by rw [Lib.join_cons, List.length_append]; have := hu.2; omega) (by rw [List.length_cons]; omega), Lib.join_cons]
 have := zBZ t
 have := hu.2
 have := hx.l1
 have := hx.l2
 have := hW.2
 refine mkP t ([[102, 117, 110]] ++ ([t.S] ++ (([u] ++ r) ++ ([[61]] ++ PT x)))) ([102, 117, 110] ++ 32 :: (t.S ++ 32 :: ((u ++ Lib.joinTail [32] r) ++ 32 :: ([61] ++ 32 :: QT x)))) hs (G2 (G1 (zAd rfl)) (G2 (G1 hS) (G2 (hG) (G2 (G1 (zAd rfl)) (hx.g))))) ?_ ?_ (fun l g hl hf => ?_) (fun g hf => ?_)
 ·first | omega | (simp only [LE]; omega)
 ·first | omega | (simp only [LE]; omega)
 ·rw [zAH]
  simp (disch := first | omega | (simp only [LE]; omega)) only [h, BB, CD, Int.reduceEq, Int.reduceLE, ↓reduceIte, zAI, zAT, hL, cx.w, hNe]
 ·rw [zAM]
  simp (disch := first | omega | (simp only [LE]; omega)) only [h, BB, CD, Int.reduceEq, Int.reduceLE, ↓reduceIte, zAf, hL, hx.r, cx.r, hNe, hJ]
theorem pr43 (t : zIi) (h : t.Op = 43) (hok : ok t false = true) (hs : sz t ≤ 400) (ih : IH t) : Pr t := by
 obtain ⟨ho, hk, _⟩ := okD hok
 have K := Kids.mk' hs (by rw [h]; decide) hok ih
 rw [nd, h] at ho hk
 simp only [Bool.and_eq_true, Bool.or_eq_true] at ho hk
 have hW := lo_LW ho.2.1
 have hS := hW.p
 have hp := prm_ok ho.2.2
 obtain ⟨x, hL, hx, hzz, hm, hb⟩ := kid1 K hk
 have cx := hx.pc (by omega) 0
 have := zBZ t
 have := hx.l1
 have := hx.l2
 have := hW.2
 have := pt_len hp.1
 have := pq_len hp.1 hp.2
 refine mkP t ([[116, 121, 112, 101]] ++ (pt t.Names ++ ([t.S] ++ ([[61]] ++ PT x)))) ([116, 121, 112, 101] ++ 32 :: (pq t.Names ++ (t.S ++ 32 :: ([61] ++ 32 :: QT x)))) hs (G2 (G1 (zAd rfl)) (parG hp.2 (G2 (G1 hS) (G2 (G1 (zAd rfl)) (hx.g))))) ?_ ?_ (fun l g hl hf => ?_) (fun g hf => ?_)
 ·first | omega | (simp only [LE]; omega)
 ·first | omega | (simp only [LE]; omega)
 ·rw [zAH]
  simp (disch := first | omega | (simp only [LE]; omega)) only [h, BB, CD, Int.reduceEq, Int.reduceLE, ↓reduceIte, zAI, zAT, hL, cx.w, par_M hp.1]
 ·rw [zAM]
  simp (disch := first | omega | (simp only [LE]; omega)) only [h, BB, CD, Int.reduceEq, Int.reduceLE, ↓reduceIte, zAf, hL, hx.r, cx.r, rpar_M hp.1 hp.2]
theorem pr62 (t : zIi) (h : t.Op = 62) (hok : ok t false = true) (hs : sz t ≤ 400) (ih : IH t) : Pr t := by
 obtain ⟨ho, hk, _⟩ := okD hok
 have K := Kids.mk' hs (by rw [h]; decide) hok ih
 rw [nd, h] at ho hk
 simp only [Bool.and_eq_true, Bool.or_eq_true] at ho hk
 have hW := lo_LW ho.2.1
 have hS := hW.p
 have hp := prm_ok ho.2.2
 have hm := K.m
 have := zBZ t
 have := hW.2
 have := pt_len hp.1
 have := pq_len hp.1 hp.2
 refine mkP t ([[116, 121, 112, 101]] ++ (pt t.Names ++ [t.S])) ([116, 121, 112, 101] ++ 32 :: (pq t.Names ++ t.S)) hs (G2 (G1 (zAd rfl)) (parG hp.2 (G1 hS))) ?_ ?_ (fun l g hl hf => ?_) (fun g hf => ?_)
 ·first | omega | (simp only [LE]; omega)
 ·first | omega | (simp only [LE]; omega)
 ·rw [zAH]
  simp (disch := first | omega | (simp only [LE]; omega)) only [h, BB, CD, Int.reduceEq, Int.reduceLE, ↓reduceIte, zAI, zAT, zAY, par_M hp.1]
 ·rw [zAM]
  simp (disch := first | omega | (simp only [LE]; omega)) only [h, BB, CD, Int.reduceEq, Int.reduceLE, ↓reduceIte, zAf, rpar_M hp.1 hp.2]
theorem pr45 (t : zIi) (h : t.Op = 45) (hok : ok t false = true) (hs : sz t ≤ 400) (ih : IH t) : Pr t := by
 obtain ⟨ho, hk, _⟩ := okD hok
 have K := Kids.mk' hs (by rw [h]; decide) hok ih
 rw [nd, h] at ho hk
 simp only [Bool.and_eq_true, Bool.or_eq_true] at ho hk
 have Su := K.sub
 have hsm := K.s
 have hm := K.m
 have hW := up_LW ho.2
 have hS := hW.p
 rcases Nat.eq_zero_or_pos t.L.length with hn | hn
 ·have hL : t.L = [] := List.length_eq_zero_iff.1 hn
  have := zBZ t
  have := hW.2
  refine mkP t [t.S] t.S hs (G1 hS) ?_ ?_ (fun l g hl hf => ?_) (fun g hf => ?_)
  ·first | omega | (simp only [LE]; omega)
  ·first | omega | (simp only [LE]; omega)
  ·rw [zAH]
   simp (disch := first | omega | (simp only [LE]; omega)) only [h, BB, CD, Int.reduceEq, Int.reduceLE, ↓reduceIte, zAI, zAT, hL, QL]
  ·rw [zAM]
   simp (disch := first | omega | (simp only [LE]; omega)) only [h, BB, CD, Int.reduceEq, Int.reduceLE, ↓reduceIte, zAf, hL, QL]
 ·replace hn : t.L.length = 1 := by have := leT hk.2.1; omega
  obtain ⟨x, hL⟩ : ∃ x, t.L = [x] := by
   match hL : t.L, hn with
   | [x], _ => exact ⟨x, rfl⟩
  have hx := K.p x (by rw [hL]; simp)
  rw [hL] at hsm hm
  simp only [List.map_cons, List.map_nil, List.sum_cons, List.sum_nil, List.length_cons, List.length_nil] at hsm hm
  have cx := hx.pc (by omega) 0
  have := zBZ t
  have := hW.2
  have := hx.l1
  have := hx.l2
  refine mkP t ([t.S] ++ ([[111, 102]] ++ PT x)) (t.S ++ 32 :: ([111, 102] ++ 32 :: QT x)) hs (G2 (G1 hS) (G2 (G1 (zAd rfl)) (hx.g))) ?_ ?_ (fun l g hl hf => ?_) (fun g hf => ?_)
  ·first | omega | (simp only [LE]; omega)
  ·first | omega | (simp only [LE]; omega)
  ·rw [zAH]
   simp (disch := first | omega | (simp only [LE]; omega)) only [h, BB, CD, Int.reduceEq, Int.reduceLE, ↓reduceIte, zAI, zAT, hL, QL, cx.w]
  ·rw [zAM]
   simp (disch := first | omega | (simp only [LE]; omega)) only [h, BB, CD, Int.reduceEq, Int.reduceLE, ↓reduceIte, zAf, hL, QL, hx.r]
theorem pr66 (t : zIi) (h : t.Op = 66) (hok : ok t false = true) (hs : sz t ≤ 400) (ih : IH t) : Pr t := by
 obtain ⟨ho, hk, _⟩ := okD hok
 have K := Kids.mk' hs (by rw [h]; decide) hok ih
 rw [nd, h] at ho hk
 simp only [Bool.and_eq_true, Bool.or_eq_true] at ho hk
 have hP := zFT ho.2
 obtain ⟨x, hL⟩ : ∃ x, t.L = [x] := by
  match hL : t.L, hk with
  | [x], _ => exact ⟨x, rfl⟩
  | [], hk => exact absurd hk (by simp)
  | _ :: _ :: _, hk => exact absurd hk (by simp)
 have hsm := K.s
 have hm := K.m
 have hx := K.p x (by rw [hL]; simp)
 rw [hL] at hsm hm
 simp only [List.map_cons, List.map_nil, List.sum_cons, List.sum_nil, List.length_cons, List.length_nil] at hsm hm
 have cx := hx.pc (by omega) 0
 have := zBZ t
 have := hx.l1
 have := hx.l2
 have := hP.2.1
 have := hP.2.2
 refine mkP t ([[115, 104, 97, 114, 105, 110, 103]] ++ ([[116, 121, 112, 101]] ++ ([Lib.join t.Names [46]] ++ ([[61]] ++ PT x)))) ([115, 104, 97, 114, 105, 110, 103] ++ 32 :: ([116, 121, 112, 101] ++ 32 :: ((Lib.join t.Names [46]) ++ 32 :: ([61] ++ 32 :: QT x)))) hs (G2 (G1 (zAd rfl)) (G2 (G1 (zAd rfl)) (G2 (G1 hP.1) (G2 (G1 (zAd rfl)) (hx.g))))) ?_ ?_ (fun l g hl hf => ?_) (fun g hf => ?_)
 ·first | omega | (simp only [LE]; omega)
 ·first | omega | (simp only [LE]; omega)
 ·rw [zAH]
  simp (disch := first | omega | (simp only [LE]; omega)) only [h, BB, CD, Int.reduceEq, Int.reduceLE, ↓reduceIte, zAI, zAT, zAY, hL, cx.w, ppath hP.2.1 hP.2.2]
 ·rw [zAM]
  simp (disch := first | omega | (simp only [LE]; omega)) only [h, BB, CD, Int.reduceEq, Int.reduceLE, ↓reduceIte, zAf, hL, hx.r, zFz hP.2.1 hP.2.2]
theorem pr71 (t : zIi) (h : t.Op = 71) (hok : ok t false = true) (hs : sz t ≤ 400) (ih : IH t) : Pr t := by
 obtain ⟨ho, hk, _⟩ := okD hok
 have K := Kids.mk' hs (by rw [h]; decide) hok ih
 rw [nd, h] at ho hk
 simp only [Bool.and_eq_true, Bool.or_eq_true] at ho hk
 have Su := K.sub
 have hsm := K.s
 have hm := K.m
 have := zBZ t
 have := Su.l [] 0
 have := Su.w
 refine mkP t ([[115, 105, 103]] ++ (ls [] 0 t.L ++ [[101, 110, 100]])) ([115, 105, 103] ++ 32 :: (qw t.L ++ [101, 110, 100])) hs (G2 (G1 (zAd rfl)) (goodW t.L Su.p _ _ (G1 (zAd rfl)))) ?_ ?_ (fun l g hl hf => ?_) (fun g hf => ?_)
 ·first | omega | (simp only [LE]; omega)
 ·first | omega | (simp only [LE]; omega)
 ·rw [zAH]
  simp (disch := first | omega | (simp only [LE]; omega)) only [h, BB, CD, Int.reduceEq, Int.reduceLE, ↓reduceIte, zAI, zAT, zAY, zGO Su [] 0]
 ·rw [zAM]
  simp (disch := first | omega | (simp only [LE]; omega)) only [h, BB, CD, Int.reduceEq, Int.reduceLE, ↓reduceIte, zBU, zIF Su]
theorem pr81 (t : zIi) (h : t.Op = 81) (hok : ok t false = true) (hs : sz t ≤ 400) (ih : IH t) : Pr t := by
 obtain ⟨ho, hk, _⟩ := okD hok
 have K := Kids.mk' hs (by rw [h]; decide) hok ih
 rw [nd, h] at ho hk
 simp only [Bool.and_eq_true, Bool.or_eq_true] at ho hk
 have Su := K.sub
 have hsm := K.s
 have hm := K.m
 have := zBZ t
 have := Su.l [] 0
 have := Su.w
 refine mkP t ([[115, 116, 114, 117, 99, 116]] ++ (ls [] 0 t.L ++ [[101, 110, 100]])) ([115, 116, 114, 117, 99, 116] ++ 32 :: (qw t.L ++ [101, 110, 100])) hs (G2 (G1 (zAd rfl)) (goodW t.L Su.p _ _ (G1 (zAd rfl)))) ?_ ?_ (fun l g hl hf => ?_) (fun g hf => ?_)
 ·first | omega | (simp only [LE]; omega)
 ·first | omega | (simp only [LE]; omega)
 ·rw [zAH]
  simp (disch := first | omega | (simp only [LE]; omega)) only [h, BB, CD, Int.reduceEq, Int.reduceLE, ↓reduceIte, zAI, zAT, zAY, zGO Su [] 0]
 ·rw [zAM]
  simp (disch := first | omega | (simp only [LE]; omega)) only [h, BB, CD, Int.reduceEq, Int.reduceLE, ↓reduceIte, zBU, zIF Su]
theorem pr73 (t : zIi) (h : t.Op = 73) (hok : ok t false = true) (hs : sz t ≤ 400) (ih : IH t) : Pr t := by
 obtain ⟨ho, hk, _⟩ := okD hok
 have K := Kids.mk' hs (by rw [h]; decide) hok ih
 rw [nd, h] at ho hk
 simp only [Bool.and_eq_true, Bool.or_eq_true] at ho hk
 have hW := up_LW ho.2.1
 have hS := hW.p
 obtain ⟨x, y, hL, hx, hy, hzz, hm⟩ := kid2 K hk
 have cx := hx.pc (by omega) 0
 have cy := hy.pc (by omega) 0
 by_cases hN : t.N = 1
 ·have := zBZ t
  have := hx.l1
  have := hx.l2
  have := hy.l1
  have := hy.l2
  have := hW.2
  refine mkP t ([[102, 117, 110, 99, 116, 111, 114]] ++ (([40] :: (([t.S] ++ ([[58]] ++ PT x)) ++ [[41]])) ++ ([[61, 62]] ++ PT y))) ([102, 117, 110, 99, 116, 111, 114] ++ 32 :: ((40 :: ((t.S ++ 32 :: ([58] ++ 32 :: QT x)) ++ [41])) ++ 32 :: ([61, 62] ++ 32 :: QT y))) hs (G2 (G1 (zAd rfl)) (G2 (G3 (G2 (G1 hS) (G2 (G1 (zAd rfl)) (hx.g)))) (G2 (G1 (zAd rfl)) (hy.g)))) ?_ ?_ (fun l g hl hf => ?_) (fun g hf => ?_)
  ·first | omega | (simp only [LE]; omega)
  ·first | omega | (simp only [LE]; omega)
  ·rw [zAH]
   simp (disch := first | omega | (simp only [LE]; omega)) only [h, BB, CD, Int.reduceEq, Int.reduceLE, ↓reduceIte, zAI, zAT, zAY, zBL, hL, cx.w, cy.w, hN]
  ·rw [zAM]
   simp (disch := first | omega | (simp only [LE]; omega)) only [h, BB, CD, Int.reduceEq, Int.reduceLE, ↓reduceIte, zBU, zCW, hL, hx.r, cx.r, hy.r, cy.r, hN]
 ·have hN1 : decide (t.N = 1) = false := decide_eq_false hN
  have := zBZ t
  have := hx.l1
  have := hx.l2
  have := hy.l1
  have := hy.l2
  have := hW.2
  refine mkP t ([[103, 101, 110, 101, 114, 97, 116, 105, 118, 101]] ++ (([40] :: (([t.S] ++ ([[58]] ++ PT x)) ++ [[41]])) ++ ([[61, 62]] ++ PT y))) ([103, 101, 110, 101, 114, 97, 116, 105, 118, 101] ++ 32 :: ((40 :: ((t.S ++ 32 :: ([58] ++ 32 :: QT x)) ++ [41])) ++ 32 :: ([61, 62] ++ 32 :: QT y))) hs (G2 (G1 (zAd rfl)) (G2 (G3 (G2 (G1 hS) (G2 (G1 (zAd rfl)) (hx.g)))) (G2 (G1 (zAd rfl)) (hy.g)))) ?_ ?_ (fun l g hl hf => ?_) (fun g hf => ?_)
  ·first | omega | (simp only [LE]; omega)
  ·first | omega | (simp only [LE]; omega)
  ·rw [zAH]
   simp (disch := first | omega | (simp only [LE]; omega)) only [h, BB, CD, Int.reduceEq, Int.reduceLE, ↓reduceIte, zAI, zAT, zAY, zBL, hL, cx.w, cy.w, hN1]
  ·rw [zAM]
   simp (disch := first | omega | (simp only [LE]; omega)) only [h, BB, CD, Int.reduceEq, Int.reduceLE, ↓reduceIte, zBU, zCW, hL, hx.r, cx.r, hy.r, cy.r, hN1]
theorem pr83 (t : zIi) (h : t.Op = 83) (hok : ok t false = true) (hs : sz t ≤ 400) (ih : IH t) : Pr t := by
 obtain ⟨ho, hk, _⟩ := okD hok
 have K := Kids.mk' hs (by rw [h]; decide) hok ih
 rw [nd, h] at ho hk
 simp only [Bool.and_eq_true, Bool.or_eq_true] at ho hk
 have hW := up_LW ho.2.1
 have hS := hW.p
 obtain ⟨x, y, hL, hx, hy, hzz, hm⟩ := kid2 K hk
 have cx := hx.pc (by omega) 0
 have cy := hy.pc (by omega) 0
 by_cases hN : t.N = 1
 ·have := zBZ t
  have := hx.l1
  have := hx.l2
  have := hy.l1
  have := hy.l2
  have := hW.2
  refine mkP t ([[102, 117, 110, 99, 116, 111, 114]] ++ (([40] :: (([t.S] ++ ([[58]] ++ PT x)) ++ [[41]])) ++ ([[61, 62]] ++ PT y))) ([102, 117, 110, 99, 116, 111, 114] ++ 32 :: ((40 :: ((t.S ++ 32 :: ([58] ++ 32 :: QT x)) ++ [41])) ++ 32 :: ([61, 62] ++ 32 :: QT y))) hs (G2 (G1 (zAd rfl)) (G2 (G3 (G2 (G1 hS) (G2 (G1 (zAd rfl)) (hx.g)))) (G2 (G1 (zAd rfl)) (hy.g)))) ?_ ?_ (fun l g hl hf => ?_) (fun g hf => ?_)
  ·first | omega | (simp only [LE]; omega)
  ·first | omega | (simp only [LE]; omega)
  ·rw [zAH]
   simp (disch := first | omega | (simp only [LE]; omega)) only [h, BB, CD, Int.reduceEq, Int.reduceLE, ↓reduceIte, zAI, zAT, zAY, zBL, hL, cx.w, cy.w, hN]
  ·rw [zAM]
   simp (disch := first | omega | (simp only [LE]; omega)) only [h, BB, CD, Int.reduceEq, Int.reduceLE, ↓reduceIte, zBU, zCW, hL, hx.r, cx.r, hy.r, cy.r, hN]
 ·have hN1 : decide (t.N = 1) = false := decide_eq_false hN
  have := zBZ t
  have := hx.l1
  have := hx.l2
  have := hy.l1
  have := hy.l2
  have := hW.2
  refine mkP t ([[103, 101, 110, 101, 114, 97, 116, 105, 118, 101]] ++ (([40] :: (([t.S] ++ ([[58]] ++ PT x)) ++ [[41]])) ++ ([[61, 62]] ++ PT y))) ([103, 101, 110, 101, 114, 97, 116, 105, 118, 101] ++ 32 :: ((40 :: ((t.S ++ 32 :: ([58] ++ 32 :: QT x)) ++ [41])) ++ 32 :: ([61, 62] ++ 32 :: QT y))) hs (G2 (G1 (zAd rfl)) (G2 (G3 (G2 (G1 hS) (G2 (G1 (zAd rfl)) (hx.g)))) (G2 (G1 (zAd rfl)) (hy.g)))) ?_ ?_ (fun l g hl hf => ?_) (fun g hf => ?_)
  ·first | omega | (simp only [LE]; omega)
  ·first | omega | (simp only [LE]; omega)
  ·rw [zAH]
   simp (disch := first | omega | (simp only [LE]; omega)) only [h, BB, CD, Int.reduceEq, Int.reduceLE, ↓reduceIte, zAI, zAT, zAY, zBL, hL, cx.w, cy.w, hN1]
  ·rw [zAM]
   simp (disch := first | omega | (simp only [LE]; omega)) only [h, BB, CD, Int.reduceEq, Int.reduceLE, ↓reduceIte, zBU, zCW, hL, hx.r, cx.r, hy.r, cy.r, hN1]
theorem pr32 (t : zIi) (h : t.Op = 32) (hok : ok t false = true) (hs : sz t ≤ 400) (ih : IH t) : Pr t := by
 obtain ⟨ho, hk, _⟩ := okD hok
 have K := Kids.mk' hs (by rw [h]; decide) hok ih
 rw [nd, h] at ho hk
 simp only [Bool.and_eq_true, Bool.or_eq_true] at ho hk
 have hN1 := leT ho.2.1
 have hN2 := leT ho.2.2
 rcases (by omega : t.N = 1 ∨ t.N = 2 ∨ t.N = 3 ∨ t.N = 4 ∨ t.N = 5 ∨ t.N = 6 ∨ t.N = 7 ∨ t.N = 8 ∨ t.N = 9 ∨ t.N = 10 ∨ t.N = 11 ∨ t.N = 12) with hN | hN | hN | hN | hN | hN | hN | hN | hN | hN | hN | hN
 ·replace hk : kids [3, 3] t.L = true := by rw [hN] at hk; exact hk
  obtain ⟨x, y, hL, hx, hy, hzz, hm⟩ := kid2 K hk
  have cx := hx.pc (by omega) 2
  have cy := hy.pc (by omega) 1
  have o1 : zAu 1 = some 1 := rfl
  have o2 : zA9 1 = some [111, 114, 101, 108, 115, 101] := rfl
  have o3 : zBV 1 = some [111, 114, 101, 108, 115, 101] := rfl
  have o4 : chk .i64 (1 + 1) = some 2 := rfl
  have := zBZ t
  have := cx.l1
  have := cx.l2
  have := cy.l1
  have := cy.l2
  refine mkP t (PP x 2 ++ ([[111, 114, 101, 108, 115, 101]] ++ PP y 1)) (QP x 2 ++ 32 :: ([111, 114, 101, 108, 115, 101] ++ 32 :: QP y 1)) hs (G2 (cx.g) (G2 (G1 (zAd rfl)) (cy.g))) ?_ ?_ (fun l g hl hf => ?_) (fun g hf => ?_)
  ·first | omega | (simp only [LE]; omega)
  ·first | omega | (simp only [LE]; omega)
  ·rw [zAH]
   simp (disch := first | omega | (simp only [LE]; omega)) only [h, BB, CD, Int.reduceEq, Int.reduceLE, ↓reduceIte, zAI, hN, o1, o2, o4, zAc, hL, cx.w, cy.w]
  ·rw [zAM]
   simp (disch := first | omega | (simp only [LE]; omega)) only [h, BB, CD, Int.reduceEq, Int.reduceLE, ↓reduceIte, zAW, hN, zGh, o1, o3, o4, zA8, hL, cx.r, cy.r]
 ·replace hk : kids [3, 3] t.L = true := by rw [hN] at hk; exact hk
  obtain ⟨x, y, hL, hx, hy, hzz, hm⟩ := kid2 K hk
  have cx := hx.pc (by omega) 3
  have cy := hy.pc (by omega) 2
  have o1 : zAu 2 = some 2 := rfl
  have o2 : zA9 2 = some [97, 110, 100, 97, 108, 115, 111] := rfl
  have o3 : zBV 2 = some [97, 110, 100, 97, 108, 115, 111] := rfl
  have o4 : chk .i64 (2 + 1) = some 3 := rfl
  have := zBZ t
  have := cx.l1
  have := cx.l2
  have := cy.l1
  have := cy.l2
  refine mkP t (PP x 3 ++ ([[97, 110, 100, 97, 108, 115, 111]] ++ PP y 2)) (QP x 3 ++ 32 :: ([97, 110, 100, 97, 108, 115, 111] ++ 32 :: QP y 2)) hs (G2 (cx.g) (G2 (G1 (zAd rfl)) (cy.g))) ?_ ?_ (fun l g hl hf => ?_) (fun g hf => ?_)
  ·first | omega | (simp only [LE]; omega)
  ·first | omega | (simp only [LE]; omega)
  ·rw [zAH]
   simp (disch := first | omega | (simp only [LE]; omega)) only [h, BB, CD, Int.reduceEq, Int.reduceLE, ↓reduceIte, zAI, hN, o1, o2, o4, zAc, hL, cx.w, cy.w]
  ·rw [zAM]
   simp (disch := first | omega | (simp only [LE]; omega)) only [h, BB, CD, Int.reduceEq, Int.reduceLE, ↓reduceIte, zAW, hN, zGh, o1, o3, o4, zA8, hL, cx.r, cy.r]
 ·replace hk : kids [3, 3] t.L = true := by rw [hN] at hk; exact hk
  obtain ⟨x, y, hL, hx, hy, hzz, hm⟩ := kid2 K hk
  have cx := hx.pc (by omega) 4
  have cy := hy.pc (by omega) 4
  have o1 : zAu 3 = some 3 := rfl
  have o2 : zA9 3 = some [61] := rfl
  have o3 : zBV 3 = some [61] := rfl
  have o4 : chk .i64 (3 + 1) = some 4 := rfl
  have := zBZ t
  have := cx.l1
  have := cx.l2
  have := cy.l1
  have := cy.l2
  refine mkP t (PP x 4 ++ ([[61]] ++ PP y 4)) (QP x 4 ++ 32 :: ([61] ++ 32 :: QP y 4)) hs (G2 (cx.g) (G2 (G1 (zAd rfl)) (cy.g))) ?_ ?_ (fun l g hl hf => ?_) (fun g hf => ?_)
  ·first | omega | (simp only [LE]; omega)
  ·first | omega | (simp only [LE]; omega)
  ·rw [zAH]
   simp (disch := first | omega | (simp only [LE]; omega)) only [h, BB, CD, Int.reduceEq, Int.reduceLE, ↓reduceIte, zAI, hN, o1, o2, o4, zAc, hL, cx.w, cy.w]
  ·rw [zAM]
   simp (disch := first | omega | (simp only [LE]; omega)) only [h, BB, CD, Int.reduceEq, Int.reduceLE, ↓reduceIte, zAW, hN, zGh, o1, o3, o4, zA8, hL, cx.r, cy.r]
 ·replace hk : kids [3, 3] t.L = true := by rw [hN] at hk; exact hk
  obtain ⟨x, y, hL, hx, hy, hzz, hm⟩ := kid2 K hk
  have cx := hx.pc (by omega) 4
  have cy := hy.pc (by omega) 4
  have o1 : zAu 4 = some 3 := rfl
  have o2 : zA9 4 = some [60] := rfl
  have o3 : zBV 4 = some [60] := rfl
  have o4 : chk .i64 (3 + 1) = some 4 := rfl
  have := zBZ t
  have := cx.l1
  have := cx.l2
  have := cy.l1
  have := cy.l2
  refine mkP t (PP x 4 ++ ([[60]] ++ PP y 4)) (QP x 4 ++ 32 :: ([60] ++ 32 :: QP y 4)) hs (G2 (cx.g) (G2 (G1 (zAd rfl)) (cy.g))) ?_ ?_ (fun l g hl hf => ?_) (fun g hf => ?_)
  ·first | omega | (simp only [LE]; omega)
  ·first | omega | (simp only [LE]; omega)
  ·rw [zAH]
   simp (disch := first | omega | (simp only [LE]; omega)) only [h, BB, CD, Int.reduceEq, Int.reduceLE, ↓reduceIte, zAI, hN, o1, o2, o4, zAc, hL, cx.w, cy.w]
  ·rw [zAM]
   simp (disch := first | omega | (simp only [LE]; omega)) only [h, BB, CD, Int.reduceEq, Int.reduceLE, ↓reduceIte, zAW, hN, zGh, o1, o3, o4, zA8, hL, cx.r, cy.r]
 ·replace hk : kids [3, 3] t.L = true := by rw [hN] at hk; exact hk
  obtain ⟨x, y, hL, hx, hy, hzz, hm⟩ := kid2 K hk
  have cx := hx.pc (by omega) 4
  have cy := hy.pc (by omega) 4
  have o1 : zAu 5 = some 3 := rfl
  have o2 : zA9 5 = some [60, 61] := rfl
  have o3 : zBV 5 = some [60, 61] := rfl
  have o4 : chk .i64 (3 + 1) = some 4 := rfl
  have := zBZ t
  have := cx.l1
  have := cx.l2
  have := cy.l1
  have := cy.l2
  refine mkP t (PP x 4 ++ ([[60, 61]] ++ PP y 4)) (QP x 4 ++ 32 :: ([60, 61] ++ 32 :: QP y 4)) hs (G2 (cx.g) (G2 (G1 (zAd rfl)) (cy.g))) ?_ ?_ (fun l g hl hf => ?_) (fun g hf => ?_)
  ·first | omega | (simp only [LE]; omega)
  ·first | omega | (simp only [LE]; omega)
  ·rw [zAH]
   simp (disch := first | omega | (simp only [LE]; omega)) only [h, BB, CD, Int.reduceEq, Int.reduceLE, ↓reduceIte, zAI, hN, o1, o2, o4, zAc, hL, cx.w, cy.w]
  ·rw [zAM]
   simp (disch := first | omega | (simp only [LE]; omega)) only [h, BB, CD, Int.reduceEq, Int.reduceLE, ↓reduceIte, zAW, hN, zGh, o1, o3, o4, zA8, hL, cx.r, cy.r]
 ·replace hk : kids [3, 3] t.L = true := by rw [hN] at hk; exact hk
  obtain ⟨x, y, hL, hx, hy, hzz, hm⟩ := kid2 K hk
  have cx := hx.pc (by omega) 5
  have cy := hy.pc (by omega) 4
  have o1 : zAu 6 = some 4 := rfl
  have o2 : zA9 6 = some [94] := rfl
  have o3 : zBV 6 = some [94] := rfl
  have o4 : chk .i64 (4 + 1) = some 5 := rfl
  have := zBZ t
  have := cx.l1
  have := cx.l2
  have := cy.l1
  have := cy.l2
  refine mkP t (PP x 5 ++ ([[94]] ++ PP y 4)) (QP x 5 ++ 32 :: ([94] ++ 32 :: QP y 4)) hs (G2 (cx.g) (G2 (G1 (zAd rfl)) (cy.g))) ?_ ?_ (fun l g hl hf => ?_) (fun g hf => ?_)
  ·first | omega | (simp only [LE]; omega)
  ·first | omega | (simp only [LE]; omega)
  ·rw [zAH]
   simp (disch := first | omega | (simp only [LE]; omega)) only [h, BB, CD, Int.reduceEq, Int.reduceLE, ↓reduceIte, zAI, hN, o1, o2, o4, zAc, hL, cx.w, cy.w]
  ·rw [zAM]
   simp (disch := first | omega | (simp only [LE]; omega)) only [h, BB, CD, Int.reduceEq, Int.reduceLE, ↓reduceIte, zAW, hN, zGh, o1, o3, o4, zA8, hL, cx.r, cy.r]
 ·replace hk : kids [3, 3] t.L = true := by rw [hN] at hk; exact hk
  obtain ⟨x, y, hL, hx, hy, hzz, hm⟩ := kid2 K hk
  have cx := hx.pc (by omega) 5
  have cy := hy.pc (by omega) 6
  have o1 : zAu 7 = some 5 := rfl
  have o2 : zA9 7 = some [43] := rfl
  have o3 : zBV 7 = some [43] := rfl
  have o4 : chk .i64 (5 + 1) = some 6 := rfl
  have := zBZ t
  have := cx.l1
  have := cx.l2
  have := cy.l1
  have := cy.l2
  refine mkP t (PP x 5 ++ ([[43]] ++ PP y 6)) (QP x 5 ++ 32 :: ([43] ++ 32 :: QP y 6)) hs (G2 (cx.g) (G2 (G1 (zAd rfl)) (cy.g))) ?_ ?_ (fun l g hl hf => ?_) (fun g hf => ?_)
  ·first | omega | (simp only [LE]; omega)
  ·first | omega | (simp only [LE]; omega)
  ·rw [zAH]
   simp (disch := first | omega | (simp only [LE]; omega)) only [h, BB, CD, Int.reduceEq, Int.reduceLE, ↓reduceIte, zAI, hN, o1, o2, o4, zAc, hL, cx.w, cy.w]
  ·rw [zAM]
   simp (disch := first | omega | (simp only [LE]; omega)) only [h, BB, CD, Int.reduceEq, Int.reduceLE, ↓reduceIte, zAW, hN, zGh, o1, o3, o4, zA8, hL, cx.r, cy.r]
 ·replace hk : kids [3, 3] t.L = true := by rw [hN] at hk; exact hk
  obtain ⟨x, y, hL, hx, hy, hzz, hm⟩ := kid2 K hk
  have cx := hx.pc (by omega) 5
  have cy := hy.pc (by omega) 6
  have o1 : zAu 8 = some 5 := rfl
  have o2 : zA9 8 = some [45] := rfl
  have o3 : zBV 8 = some [45] := rfl
  have o4 : chk .i64 (5 + 1) = some 6 := rfl
  have := zBZ t
  have := cx.l1
  have := cx.l2
  have := cy.l1
  have := cy.l2
  refine mkP t (PP x 5 ++ ([[45]] ++ PP y 6)) (QP x 5 ++ 32 :: ([45] ++ 32 :: QP y 6)) hs (G2 (cx.g) (G2 (G1 (zAd rfl)) (cy.g))) ?_ ?_ (fun l g hl hf => ?_) (fun g hf => ?_)
  ·first | omega | (simp only [LE]; omega)
  ·first | omega | (simp only [LE]; omega)
  ·rw [zAH]
   simp (disch := first | omega | (simp only [LE]; omega)) only [h, BB, CD, Int.reduceEq, Int.reduceLE, ↓reduceIte, zAI, hN, o1, o2, o4, zAc, hL, cx.w, cy.w]
  ·rw [zAM]
   simp (disch := first | omega | (simp only [LE]; omega)) only [h, BB, CD, Int.reduceEq, Int.reduceLE, ↓reduceIte, zAW, hN, zGh, o1, o3, o4, zA8, hL, cx.r, cy.r]
 ·replace hk : kids [3, 3] t.L = true := by rw [hN] at hk; exact hk
  obtain ⟨x, y, hL, hx, hy, hzz, hm⟩ := kid2 K hk
  have cx := hx.pc (by omega) 6
  have cy := hy.pc (by omega) 7
  have o1 : zAu 9 = some 6 := rfl
  have o2 : zA9 9 = some [42] := rfl
  have o3 : zBV 9 = some [42] := rfl
  have o4 : chk .i64 (6 + 1) = some 7 := rfl
  have := zBZ t
  have := cx.l1
  have := cx.l2
  have := cy.l1
  have := cy.l2
  refine mkP t (PP x 6 ++ ([[42]] ++ PP y 7)) (QP x 6 ++ 32 :: ([42] ++ 32 :: QP y 7)) hs (G2 (cx.g) (G2 (G1 (zAd rfl)) (cy.g))) ?_ ?_ (fun l g hl hf => ?_) (fun g hf => ?_)
  ·first | omega | (simp only [LE]; omega)
  ·first | omega | (simp only [LE]; omega)
  ·rw [zAH]
   simp (disch := first | omega | (simp only [LE]; omega)) only [h, BB, CD, Int.reduceEq, Int.reduceLE, ↓reduceIte, zAI, hN, o1, o2, o4, zAc, hL, cx.w, cy.w]
  ·rw [zAM]
   simp (disch := first | omega | (simp only [LE]; omega)) only [h, BB, CD, Int.reduceEq, Int.reduceLE, ↓reduceIte, zAW, hN, zGh, o1, o3, o4, zA8, hL, cx.r, cy.r]
 ·replace hk : kids [3, 3] t.L = true := by rw [hN] at hk; exact hk
  obtain ⟨x, y, hL, hx, hy, hzz, hm⟩ := kid2 K hk
  have cx := hx.pc (by omega) 6
  have cy := hy.pc (by omega) 7
  have o1 : zAu 10 = some 6 := rfl
  have o2 : zA9 10 = some [100, 105, 118] := rfl
  have o3 : zBV 10 = some [100, 105, 118] := rfl
  have o4 : chk .i64 (6 + 1) = some 7 := rfl
  have := zBZ t
  have := cx.l1
  have := cx.l2
  have := cy.l1
  have := cy.l2
  refine mkP t (PP x 6 ++ ([[100, 105, 118]] ++ PP y 7)) (QP x 6 ++ 32 :: ([100, 105, 118] ++ 32 :: QP y 7)) hs (G2 (cx.g) (G2 (G1 (zAd rfl)) (cy.g))) ?_ ?_ (fun l g hl hf => ?_) (fun g hf => ?_)
  ·first | omega | (simp only [LE]; omega)
  ·first | omega | (simp only [LE]; omega)
  ·rw [zAH]
   simp (disch := first | omega | (simp only [LE]; omega)) only [h, BB, CD, Int.reduceEq, Int.reduceLE, ↓reduceIte, zAI, hN, o1, o2, o4, zAc, hL, cx.w, cy.w]
  ·rw [zAM]
   simp (disch := first | omega | (simp only [LE]; omega)) only [h, BB, CD, Int.reduceEq, Int.reduceLE, ↓reduceIte, zAW, hN, zGh, o1, o3, o4, zA8, hL, cx.r, cy.r]
 ·replace hk : kids [3, 3] t.L = true := by rw [hN] at hk; exact hk
  obtain ⟨x, y, hL, hx, hy, hzz, hm⟩ := kid2 K hk
  have cx := hx.pc (by omega) 6
  have cy := hy.pc (by omega) 7
  have o1 : zAu 11 = some 6 := rfl
  have o2 : zA9 11 = some [109, 111, 100] := rfl
  have o3 : zBV 11 = some [109, 111, 100] := rfl
  have o4 : chk .i64 (6 + 1) = some 7 := rfl
  have := zBZ t
  have := cx.l1
  have := cx.l2
  have := cy.l1
  have := cy.l2
  refine mkP t (PP x 6 ++ ([[109, 111, 100]] ++ PP y 7)) (QP x 6 ++ 32 :: ([109, 111, 100] ++ 32 :: QP y 7)) hs (G2 (cx.g) (G2 (G1 (zAd rfl)) (cy.g))) ?_ ?_ (fun l g hl hf => ?_) (fun g hf => ?_)
  ·first | omega | (simp only [LE]; omega)
  ·first | omega | (simp only [LE]; omega)
  ·rw [zAH]
   simp (disch := first | omega | (simp only [LE]; omega)) only [h, BB, CD, Int.reduceEq, Int.reduceLE, ↓reduceIte, zAI, hN, o1, o2, o4, zAc, hL, cx.w, cy.w]
  ·rw [zAM]
   simp (disch := first | omega | (simp only [LE]; omega)) only [h, BB, CD, Int.reduceEq, Int.reduceLE, ↓reduceIte, zAW, hN, zGh, o1, o3, o4, zA8, hL, cx.r, cy.r]
 ·replace hk : kids [3] t.L = true := by rw [hN] at hk; exact hk
  obtain ⟨x, hL, hx, hzz, hm, hb⟩ := kid1 K hk
  have cx := hx.pc (by omega) 7
  have o1 : zAu 12 = some 7 := rfl
  have o2 : zA9 12 = some [126] := rfl
  have o3 : zBV 12 = some [126] := rfl
  have o4 : chk .i64 (7 + 1) = some 8 := rfl
  have := zBZ t
  have := cx.l1
  have := cx.l2
  refine mkP t ([[126]] ++ PP x 7) ([126] ++ 32 :: QP x 7) hs (G2 (G1 (zAd rfl)) (cx.g)) ?_ ?_ (fun l g hl hf => ?_) (fun g hf => ?_)
  ·first | omega | (simp only [LE]; omega)
  ·first | omega | (simp only [LE]; omega)
  ·rw [zAH]
   simp (disch := first | omega | (simp only [LE]; omega)) only [h, BB, CD, Int.reduceEq, Int.reduceLE, ↓reduceIte, zAI, hN, o1, o2, o4, zAc, hL, cx.w]
  ·rw [zAM]
   simp (disch := first | omega | (simp only [LE]; omega)) only [h, BB, CD, Int.reduceEq, Int.reduceLE, ↓reduceIte, zAW, hN, zGh, o1, o3, o4, zA8, hL, cx.r]
theorem pr74 (t : zIi) (h : t.Op = 74) (hok : ok t false = true) (hs : sz t ≤ 400) (ih : IH t) : Pr t := by
 obtain ⟨ho, hk, hc⟩ := okD hok
 rw [nd, h] at ho hk
 simp only [Bool.and_eq_true] at ho
 obtain ⟨x, y, hL, hk2⟩ : ∃ x y, t.L = [x, y] ∧ (bl 6 x.Op && eqI y.Op 43) = true := by
  match hL : t.L, hk with
  | [x, y], hk => simp only [hL] at hk; exact ⟨x, y, rfl, hk⟩
  | [], hk => simp only [hL] at hk; cases hk
  | [_], hk => simp only [hL] at hk; cases hk
  | _ :: _ :: _ :: _, hk => simp only [hL] at hk; cases hk
 rw [Bool.and_eq_true] at hk2
 rw [show eqI t.Op 74 = true from decide_eq_true h] at hc
 have hz := sz_eq t
 have hmt := mz_eq t
 rw [hL] at hz hmt hc
 simp only [List.map_cons, List.map_nil, List.sum_cons, List.sum_nil, List.length_cons, List.length_nil] at hz hmt
 have hx : Pr x := ih x (by omega) (by
  rw [ok_w x (fun e => by rw [e] at hk2; exact absurd hk2.1 (by decide)) false true]
  exact hc x (by simp))
 have hy := hc y (by simp)
 rw [ok_eq, Bool.and_eq_true, Bool.and_eq_true, nd, of_decide_eq_true hk2.2] at hy
 obtain ⟨hyo, hyk, hyc⟩ := hy
 simp only [Bool.and_eq_true] at hyo hyk
 have hp := prm_ok hyo.2.2
 obtain ⟨z, hyL, hzk⟩ : ∃ z, y.L = [z] ∧ ok z false = true := by
  match hq : y.L, hyk with
  | [z], _ =>
   rw [hq] at hyc
   simp only [List.all_cons, List.all_nil, Bool.and_true, show eqI (43 : Int) 74 = false from rfl] at hyc
   exact ⟨z, rfl, hyc⟩
  | [], hyk => cases hyk
  | u :: v :: r, hyk => simp [kids] at hyk
 have hzy := sz_eq y
 have hmy := mz_eq y
 rw [hyL] at hzy hmy
 simp only [List.map_cons, List.map_nil, List.sum_cons, List.sum_nil, List.length_cons, List.length_nil] at hzy hmy
 have hz' : Pr z := ih z (by omega) hzk
 have cx := hx.pc (by omega) 1
 have cz := hz'.pc (by omega) 0
 have hP := zFT ho.2
 have := zBZ t
 have := cx.l1
 have := cx.l2
 have := hz'.l1
 have := hz'.l2
 have := pt_len hp.1
 have := pq_len hp.1 hp.2
 have := hP.2.1
 have := hP.2.2
 refine mkP t (PP x 1 ++ ([[119, 105, 116, 104]] ++ ([[116, 121, 112, 101]] ++ (pt y.Names ++ ([Lib.join t.Names [46]] ++ ([[61]] ++ PT z)))))) (QP x 1 ++ 32 :: ([119, 105, 116, 104] ++ 32 :: ([116, 121, 112, 101] ++ 32 :: (pq y.Names ++ ((Lib.join t.Names [46]) ++ 32 :: ([61] ++ 32 :: QT z)))))) hs (G2 (cx.g) (G2 (G1 (zAd rfl)) (G2 (G1 (zAd rfl)) (parG hp.2 (G2 (G1 hP.1) (G2 (G1 (zAd rfl)) (hz'.g))))))) ?_ ?_ (fun l g hl hf => ?_) (fun g hf => ?_)
 ·first | omega | (simp only [LE]; omega)
 ·first | omega | (simp only [LE]; omega)
 ·rw [zAH]
  simp (disch := first | omega | (simp only [LE]; omega)) only [h, BB, CD, Int.reduceEq, Int.reduceLE, ↓reduceIte, zAI, zAT, zAY, hL, hyL, cx.w, cz.w, par_M hp.1, ppath hP.2.1 hP.2.2]
 ·rw [zAM]
  simp (disch := first | omega | (simp only [LE]; omega)) only [h, BB, CD, Int.reduceEq, Int.reduceLE, ↓reduceIte, zBU, hL, hyL, cx.r, hz'.r, rpar_M hp.1 hp.2, zFz hP.2.1 hP.2.2]
theorem pr_all : ∀ (n : Nat) (t : zIi), sz t ≤ n → sz t ≤ 400 → ok t false = true → Pr t := by
 intro n
 induction n with
 | zero => intro t h; have := zBZ t; omega
 | succ n ih =>
  intro t hn hs hok
  have hI : IH t := fun x hx h => ih x (by omega) (by omega) h
  refine ops_or t.Op _ (fun h => pr1 t h hok hs hI) (fun h => pr2 t h hok hs hI) (fun h => pr3 t h hok hs hI) (fun h => pr4 t h hok hs hI) (fun h => pr5 t h hok hs hI) (fun h => pr11 t h hok hs hI) (fun h => pr12 t h hok hs hI) (fun h => pr13 t h hok hs hI) (fun h => pr14 t h hok hs hI) (fun h => pr15 t h hok hs hI) (fun h => pr21 t h hok hs hI) (fun h => pr22 t h hok hs hI) (fun h => pr23 t h hok hs hI) (fun h => pr24 t h hok hs hI) (fun h => pr25 t h hok hs hI) (fun h => pr26 t h hok hs hI) (fun h => pr27 t h hok hs hI) (fun h => pr28 t h hok hs hI) (fun h => pr29 t h hok hs hI) (fun h => pr30 t h hok hs hI) (fun h => pr31 t h hok hs hI) (fun h => pr32 t h hok hs hI) (fun h => pr33 t h hok hs hI) (fun h => pr34 t h hok hs hI) (fun h => pr41 t h hok hs hI) (fun h => pr42 t h hok hs hI) (fun h => pr43 t h hok hs hI) (fun h => pr44 t h hok hs hI) (fun h => pr45 t h hok hs hI) (fun h => pr46 t h hok hs hI) (fun h => pr47 t h hok hs hI) (fun h => pr48 t h hok hs hI) (fun h => pr49 t h hok hs hI) (fun h => pr50 t h hok hs hI) (fun h => pr61 t h hok hs hI) (fun h => pr62 t h hok hs hI) (fun h => pr63 t h hok hs hI) (fun h => pr64 t h hok hs hI) (fun h => pr65 t h hok hs hI) (fun h => pr66 t h hok hs hI) (fun h => pr71 t h hok hs hI) (fun h => pr72 t h hok hs hI) (fun h => pr73 t h hok hs hI) (fun h => pr74 t h hok hs hI) (fun h => pr81 t h hok hs hI) (fun h => pr82 t h hok hs hI) (fun h => pr83 t h hok hs hI) (fun h => pr84 t h hok hs hI) (fun h => pr85 t h hok hs hI) (fun h => pr86 t h hok hs hI) (fun h => pr87 t h hok hs hI) (fun h => pr88 t h hok hs hI) ?_
  intros
  exfalso
  have h2 := (okD hok).2.1
  have n0 : (nd t false).2 = false := by
   unfold nd
   split <;> first | contradiction | rfl
  rw [n0] at h2; cases h2
theorem pr_vl {c : Int} {t : zIi} (hs : sz t ≤ 400) (h : vl c t = true) : Pr t := by
 unfold vl at h
 simp only [Bool.and_eq_true] at h
 exact pr_all (sz t) t (Nat.le_refl _) hs h.2.2.2
def bnd (s : List UInt8) : List UInt8 × Int := if ltI 16384 (s.length : Int) = true then ([], 5) else (s, 0)
def pv (c : Int) (t : zIi) : List UInt8 × Int := if vl c t = true then bnd (QT t) else ([], 1)
theorem print_M {t : zIi} (p : Pr t) (hs : sz t ≤ 400) {fuel : Nat} (hf : mz t + 20000 ≤ fuel) : zDr fuel t = some (QT t) := by
 have h1 := p.l1; have h2 := p.l2
 rw [zDr, p.w [] fuel (by rw [List.length_nil]; omega) (by omega), zAl, List.nil_append, text_M7 (w := ⟨PT t⟩) p.g (by omega) (by show (PT t).length + 1 ≤ fuel; omega)]; rfl
theorem bounded_M (s : List UInt8) : zDP s = some (bnd s) := by
 rw [zDP]; unfold bnd; cases ltI 16384 (s.length : Int) <;> rfl
theorem Print_M (c : Int) (t : zIi) (hs : sz t ≤ 400) {fuel : Nat} (hf : mz t + 20000 ≤ fuel) : zCZ fuel c t = some (pv c t) := by
 rw [zCZ, vl_M c t hs (by omega), zAl]
 unfold pv
 cases h : vl c t
 ·rfl
 ·simp only [Bool.not_true, Bool.false_eq_true, if_false, if_true]
  rw [print_M (pr_vl hs h) hs hf, zAl, bounded_M]; rfl
theorem Print_R (c : Int) (t : zIi) (hs : sz t ≤ 400) {fuel : Nat} (hf : mz t + 20000 ≤ fuel) : zDY fuel c t = some (pv c t) := by
 rw [zDY, vl_R c t hs (by omega), zAl]
 unfold pv
 cases h : vl c t
 ·rfl
 ·simp only [Bool.not_true, Bool.false_eq_true, if_false, if_true]
  rw [(pr_vl hs h).r fuel (by omega), zAl]
  unfold bnd
  cases ltI 16384 ((QT t).length : Int) <;> rfl
def ex1 : zIi := ⟨32, 9, [], [], [⟨32, 7, [], [], [⟨21, 1, [], [], []⟩, ⟨21, 2, [], [], []⟩]⟩, ⟨32, 12, [], [], [⟨23, 0, [], [[120]], []⟩]⟩]⟩
def ex2 : zIi := ⟨81, 0, [], [], [⟨41, 0, [120], [], [⟨21, 1, [], [], []⟩]⟩, ⟨46, 0, [77], [], [⟨81, 0, [], [], []⟩]⟩]⟩
theorem ex1_z : sz ex1 ≤ 400 ∧ mz ex1 ≤ 2000 := by simp [ex1, sz_eq, mz_eq]
theorem ex2_z : sz ex2 ≤ 400 ∧ mz ex2 ≤ 2000 := by simp [ex2, sz_eq, mz_eq]
theorem ex1_v : pv 3 ex1 = ([40, 49, 32, 43, 32, 50, 41, 32, 42, 32, 126, 32, 120], 0) := by
 have h1 := Print_R 3 ex1 ex1_z.1 (fuel := 23000) (by have := ex1_z.2; omega)
 have h2 : zDY 23000 3 ex1 = some ([40, 49, 32, 43, 32, 50, 41, 32, 42, 32, 126, 32, 120], 0) := by kernel_rfl
 rw [h1] at h2; injection h2
theorem ex2_v : pv 7 ex2 = ([115, 116, 114, 117, 99, 116, 32, 118, 97, 108, 32, 120, 32, 61, 32, 49, 32, 115, 116, 114, 117, 99, 116, 117, 114, 101, 32, 77, 32, 61, 32, 115, 116, 114, 117, 99, 116, 32, 101, 110, 100, 32, 101, 110, 100], 0) := by
 have h1 := Print_R 7 ex2 ex2_z.1 (fuel := 23000) (by have := ex2_z.2; omega)
 have h2 : zDY 23000 7 ex2 = some ([115, 116, 114, 117, 99, 116, 32, 118, 97, 108, 32, 120, 32, 61, 32, 49, 32, 115, 116, 114, 117, 99, 116, 117, 114, 101, 32, 77, 32, 61, 32, 115, 116, 114, 117, 99, 116, 32, 101, 110, 100, 32, 101, 110, 100], 0) := by kernel_rfl
 rw [h1] at h2; injection h2
theorem awake_M {fuel : Nat} (hf : 30000 ≤ fuel) : zEl fuel = some true := by
 have h1 : zCZ fuel 3 ex1 = _ := Print_M 3 ex1 ex1_z.1 (by have := ex1_z.2; omega)
 have h2 : zCZ fuel 7 ex2 = _ := Print_M 7 ex2 ex2_z.1 (by have := ex2_z.2; omega)
 rw [zEl]
 simp only [zDi, zFH, zFR, zAl]
 rw [ex1_v] at h1
 rw [ex2_v] at h2
 unfold ex1 at h1
 unfold ex2 at h2
 rw [h1, zAl, h2, zAl]
 rfl
theorem zG9 (c : Int) (t : zIi) (_ : Rng .i64 c) : ∃ fuel, zDM fuel c t = some true := by
 refine ⟨mz t + 30000, ?_⟩
 obtain ⟨b, b1, b2⟩ := great_M [t] (fuel := mz t + 30000) (fun x hx => by rw [List.mem_singleton.1 hx]; omega) (by rw [List.length_singleton]; omega)
 rw [zDM, awake_M (by omega), zAl, b1]
 cases b
 ·have hs := ((b2 rfl).2.2 t (by simp)).1
  simp only [Bool.not_true, Bool.false_eq_true, if_false, zAl, Print_M c t (by omega) (fuel := mz t + 30000) (by omega), Print_R c t (by omega) (fuel := mz t + 30000) (by omega), level_M, level_R]
  rw [show eqI (LV t) (LV t) = true from decide_eq_true rfl, show eqS (pv c t).1 (pv c t).1 = true from decide_eq_true rfl, show eqI (pv c t).2 (pv c t).2 = true from decide_eq_true rfl]
  rfl
 ·rfl
end Go.Proofs.YtlhikhaailhoaaaGreatDoor
