/- For every input the law LexerPlaces returns true. Part 14 of 18. No condition. -/
import Derived.Test.YthbjlmoaceaeeaaDoorLAm
set_option linter.unusedVariables false
set_option linter.unusedSimpArgs false
namespace Go.Proofs.YthbjlmoaceaeeaaDoor
open Go Go.Abs
def la (c : UInt8) (s : List UInt8) : Nat → Int
  | 0 => -1
  | i + 1 => if s[i]? = some c then (i : Int) else la c s i
theorem la_lt (c : UInt8) (s : List UInt8) : ∀ i, -1 ≤ la c s i ∧ la c s i < i
  | 0 => by simp [la]
  | i + 1 => by
    have := la_lt c s i
    rw [la]
    split <;> omega
theorem eqB8 (c d : UInt8) : eqI (c.toNat : Int) (d.toNat : Int) = decide (c = d) := eq8 c d.toNat d rfl
theorem lastM_loop (s : List UInt8) (c : UInt8) (hs : s.length ≤ 100000) : ∀ (i k : Nat) (I : Int), I = (i : Int) - 1 → i ≤ s.length → i + 1 ≤ k → ∃ o, M.bytealg_LastIndexByteString_l1 s c k I = some o ∧ Sum.elim id (fun _ => -1) o = la c s i := by
  intro i
  induction i with
  | zero =>
    intro k I hI hi hk
    obtain ⟨g, rfl⟩ : ∃ g, k = g + 1 := ⟨k - 1, by omega⟩
    rw [M.bytealg_LastIndexByteString_l1, if_neg (show ¬ leI 0 I = true from fun h => by have := leT h; omega)]
    exact ⟨_, rfl, rfl⟩
  | succ i ih =>
    intro k I hI hi hk
    obtain ⟨g, rfl⟩ : ∃ g, k = g + 1 := ⟨k - 1, by omega⟩
    have hI' : I = (i : Int) := by omega
    have hx : s[i]? = some s[i] := List.getElem?_eq_getElem (by omega)
    generalize s[i] = d at hx
    rw [M.bytealg_LastIndexByteString_l1, if_pos (show leI 0 I = true from decide_eq_true (by omega)), hI', idxN, hx, la, hx]
    simp only [obind, eqB8, Option.some.injEq]
    by_cases h : d = c
    · subst h
      rw [decide_eq_true rfl, if_pos rfl, if_pos rfl]
      exact ⟨_, rfl, rfl⟩
    · rw [decide_eq_false h, if_neg (by simp), if_neg h]
      exact ih g _ rfl (by omega) (by omega)
theorem la_take (c : UInt8) (s : List UInt8) (n : Nat) : ∀ i, i ≤ n → la c (s.take n) i = la c s i
  | 0, _ => rfl
  | i + 1, h => by
    have e : (s.take n)[i]? = s[i]? := by
      rw [List.getElem?_take, if_pos (by omega)]
    show (if (s.take n)[i]? = some c then (i : Int) else la c (s.take n) i) = (if s[i]? = some c then (i : Int) else la c s i)
    rw [la_take c s n i (by omega), e]
theorem cnt_take (s : List UInt8) (i : Nat) (d : UInt8) (h : s[i]? = some d) : Lib.countByte (s.take (i + 1)) 10 = Lib.countByte (s.take i) 10 + (if d = 10 then 1 else 0) := by
  unfold Lib.countByte
  rw [List.take_add_one, h]
  simp [List.count_append, List.count_singleton]
def PL (s : List UInt8) (i : Nat) : Api.Pos := Api.Pos.mk (1 + (Lib.countByte (s.take i) 10 : Nat)) ((i : Int) - la 10 s i)
theorem place_M (s : List UInt8) (i : Nat) {fuel : Nat} (hs : s.length ≤ 100000) (hi : i ≤ s.length) (hf : s.length + 2 ≤ fuel) : M.lexer_place fuel s (i : Int) = some (PL s i) := by
  have hl : (s.take i).length = i := by simp; omega
  have hc : Lib.countByte (s.take i) 10 ≤ (s.take i).length := List.count_le_length
  have hla := la_lt 10 s i
  rw [M.lexer_place, subT s i hi]
  simp only [obind, M.strings_Count]
  rw [chk64 (by omega) (by omega)]
  simp only [obind]
  rw [M.strings_LastIndexByte, M.bytealg_LastIndexByteString, hl, chk64 (by omega) (by omega)]
  simp only [obind]
  obtain ⟨o, o1, o2⟩ := lastM_loop (s.take i) 10 (by omega) i fuel _ rfl (by omega) (by omega)
  rw [la_take 10 s i i (by omega)] at o2
  rw [o1]
  have fin : (Option.bind (some (Sum.elim id (fun _ => (-1 : Int)) o)) fun v14 => (chk .i64 ((i : Int) - v14)).bind fun n16 => some (Api.Pos.mk (1 + (Lib.countByte (s.take i) 10 : Nat)) n16)) = some (PL s i) := by
    rw [o2, obind, chk64 (by omega) (by omega), obind]; rfl
  cases o with
  | inl z => exact fin
  | inr u => exact fin
theorem Place_loop (s : List UInt8) (n : Nat) (hs : s.length ≤ 100000) (hn : n ≤ s.length) : ∀ (m i k : Nat) (L C I : Int), I = i → i + m = n → m + 1 ≤ k → L = 1 + (Lib.countByte (s.take i) 10 : Nat) → C = (i : Int) - la 10 s i →
    M.ref02_Place_l1 s (n : Int) k L C I = some ((PL s n).Line, (PL s n).Column) := by
  intro m
  induction m with
  | zero =>
    intro i k L C I hI hi hk hL hC
    obtain ⟨g, rfl⟩ : ∃ g, k = g + 1 := ⟨k - 1, by omega⟩
    rw [M.ref02_Place_l1, if_neg (show ¬ ltI I (n : Int) = true from fun h => by have := ltT h; omega), hL, hC, show i = n by omega]
    rfl
  | succ m ih =>
    intro i k L C I hI hi hk hL hC
    obtain ⟨g, rfl⟩ : ∃ g, k = g + 1 := ⟨k - 1, by omega⟩
    have hx : s[i]? = some s[i] := List.getElem?_eq_getElem (by omega)
    generalize s[i] = d at hx
    have hcl : Lib.countByte (s.take i) 10 ≤ (s.take i).length := List.count_le_length
    have hl : (s.take i).length ≤ i := by simp; omega
    have hla := la_lt 10 s i
    have hct := cnt_take s i d hx
    rw [M.ref02_Place_l1, if_pos (show ltI I (n : Int) = true from decide_eq_true (by omega)), hI, idxN, hx]
    simp only [obind, e10]
    by_cases h : d = 10
    · subst h
      rw [decide_eq_true rfl, if_pos rfl, chk64 (by omega) (by omega)]
      simp only [obind]
      rw [chk64 (by omega) (by omega)]
      simp only [obind]
      refine ih (i + 1) g _ _ _ (by omega) (by omega) (by omega) ?_ ?_
      · rw [hct, if_pos rfl]; omega
      · rw [la, if_pos hx]; omega
    · rw [decide_eq_false h, if_neg (by simp), chk64 (by omega) (by omega)]
      simp only [obind]
      rw [chk64 (by omega) (by omega)]
      simp only [obind]
      refine ih (i + 1) g _ _ _ (by omega) (by omega) (by omega) ?_ ?_
      · rw [hct, if_neg h]; omega
      · rw [la, if_neg (by rw [hx]; simpa using h)]; omega
theorem Place_M (s : List UInt8) (i : Nat) {fuel : Nat} (hs : s.length ≤ 100000) (hi : i ≤ s.length) (hf : s.length + 2 ≤ fuel) : M.ref02_Place fuel s (i : Int) = some (PL s i) := by
  rw [M.ref02_Place, Place_loop s i hs hi i 0 fuel 1 1 0 rfl (by omega) (by omega) (by simp [Lib.countByte]) (by simp [la])]
  rfl
theorem pre2 (t : List UInt8) (a b : UInt8) : pre t [a, b] = true ↔ ∃ r, t = a :: b :: r := by
  unfold pre
  rw [decide_eq_true_eq]
  constructor
  · intro h
    match t, h with
    | [], h => simp at h
    | [x], h => simp at h
    | x :: y :: r, h => simp at h; exact ⟨r, by rw [h.1, h.2]⟩
  · rintro ⟨r, rfl⟩; simp
theorem e40 (c : UInt8) : eqI (c.toNat : Int) 40 = decide (c = 40) := eq8 c 40 40 rfl
theorem e41 (c : UInt8) : eqI (c.toNat : Int) 41 = decide (c = 41) := eq8 c 41 41 rfl
theorem e42 (c : UInt8) : eqI (c.toNat : Int) 42 = decide (c = 42) := eq8 c 42 42 rfl
theorem comment_both (s : List UInt8) (hs : s.length ≤ 100000) (w : Lexer.scanner) (hw : w.s = s) (a : Nat) (ha : a ≤ s.length) (A : Int) : ∀ (n j k k' : Nat) (d : Int) (J X : Int), J = j → X = ((a + j : Nat) : Int) → s.length - (a + j) ≤ n → n + 2 ≤ k → n + 2 ≤ k' → 0 ≤ d → d ≤ j →
    (1 ≤ d ∨ pre (s.drop (a + j)) [40, 42] = true) → a + j ≤ s.length →
    (M.lexer_scanner_skip_l2 w A k X d = some (.inl (A, Lexer.scanner.mk s s.length)) ∧ M.ref02_comment_l1 (s.drop a) k' d J = some (.inr ())) ∨
    (∃ m : Nat, M.lexer_scanner_skip_l2 w A k X d = some (.inr ((a + m : Nat) : Int)) ∧ M.ref02_comment_l1 (s.drop a) k' d J = some (.inl (m : Int)) ∧ j < m ∧ a + m ≤ s.length) := by
  intro n
  induction n using Nat.strongRecOn with
  | _ n ih =>
  intro j k k' d J X hJ hX hn hk hk' hd0 hdj hd hj
  obtain ⟨g, rfl⟩ : ∃ g, k = g + 1 := ⟨k - 1, by omega⟩
  obtain ⟨g', rfl⟩ : ∃ g, k' = g + 1 := ⟨k' - 1, by omega⟩
  have hlen : (s.drop a).length = s.length - a := by simp
  subst hJ
  subst hX
  have k1 : chk .i64 ((j : Int) + 1) = some ((j : Int) + 1) := chk64 (by omega) (by omega)
  have k2 : chk .i64 ((j : Int) + 2) = some ((j : Int) + 2) := chk64 (by omega) (by omega)
  have k3 : chk .i64 (d + 1) = some (d + 1) := chk64 (by omega) (by omega)
  have k4 : chk .i64 (d - 1) = some (d - 1) := chk64 (by omega) (by omega)
  have k5 : chk .i64 (((a + j : Nat) : Int) + 1) = some (((a + j : Nat) : Int) + 1) := chk64 (by omega) (by omega)
  have k6 : chk .i64 (((a + j : Nat) : Int) + 2) = some (((a + j : Nat) : Int) + 2) := chk64 (by omega) (by omega)
  rw [M.lexer_scanner_skip_l2, M.ref02_comment_l1, hw, k1]
  simp only [obind]
  by_cases hend : s.length ≤ a + j
  ·
    have hd1 : 1 ≤ d := by
      rcases hd with h | h
      · exact h
      · rw [List.drop_eq_nil_of_le hend] at h; cases h
    rw [if_pos (show leI (s.length : Int) ((a + j : Nat) : Int) = true from decide_eq_true (by omega)), if_neg (show ¬ ltI ((j : Int) + 1) ((s.drop a).length : Int) = true from fun h => by have := ltT h; omega)]
    exact .inl ⟨by rw [show ((a + j : Nat) : Int) = (s.length : Int) by omega], rfl⟩
  rw [if_neg (show ¬ leI (s.length : Int) ((a + j : Nat) : Int) = true from fun h => by have := leT h; omega), subD s (a + j) (by omega)]
  simp only [obind, has_M]
  generalize hT : s.drop (a + j) = T at hd
  have hTl : T.length = s.length - (a + j) := by rw [← hT]; simp
  have hg : ∀ i, (s.drop a)[j + i]? = T[i]? := fun i => by rw [← hT]; simp [Nat.add_assoc]
  have go : ∀ (b q : Nat) (d' : Int), 1 ≤ b → b ≤ 2 → a + (j + b) ≤ s.length → 1 ≤ d' → d' ≤ (j + b : Nat) → (∀ (J' X' : Int), J' = ((j + b : Nat) : Int) → X' = ((a + (j + b) : Nat) : Int) →
      (M.lexer_scanner_skip_l2 w A g X' d' = some (.inl (A, Lexer.scanner.mk s s.length)) ∧ M.ref02_comment_l1 (s.drop a) g' d' J' = some (.inr ())) ∨
      (∃ m : Nat, M.lexer_scanner_skip_l2 w A g X' d' = some (.inr ((a + m : Nat) : Int)) ∧ M.ref02_comment_l1 (s.drop a) g' d' J' = some (.inl (m : Int)) ∧ j < m ∧ a + m ≤ s.length)) := fun b q d' hb1 hb2 hbl hd1 hd2 J' X' hJ' hX' => by
    rcases ih (n - b) (by omega) (j + b) g g' d' J' X' hJ' hX' (by omega) (by omega) (by omega) (by omega) hd2 (.inl hd1) hbl with h | ⟨m, m1, m2, m3, m4⟩
    · exact .inl h
    · exact .inr ⟨m, m1, m2, by omega, m4⟩
  match T, hTl, hd, hg with
  | [], hTl, _, _ => simp at hTl; omega
  | [x], hTl, hd, hg =>
    have h1 : pre [x] [40, 42] = false := decide_eq_false (by simp)
    have h2 : pre [x] [42, 41] = false := decide_eq_false (by simp)
    rw [h1] at hd
    have hd1 : 1 ≤ d := by rcases hd with h | h; exact h; cases h
    rw [h1]
    simp only [Bool.false_eq_true, if_false, h2]
    simp at hTl
    rw [k5]
    simp only [obind]
    rw [if_neg (show ¬ eqI d 0 = true from fun h => by have := eqT h; omega), if_neg (show ¬ ltI ((j : Int) + 1) ((s.drop a).length : Int) = true from fun h => by have := ltT h; omega)]
    obtain ⟨g2, hg2⟩ : ∃ g2, g = g2 + 1 := ⟨g - 1, by omega⟩
    rw [hg2, M.lexer_scanner_skip_l2, hw, if_pos (show leI (s.length : Int) _ = true from decide_eq_true (by omega))]
    exact .inl ⟨by rw [show (((a + j : Nat) : Int) + 1) = (s.length : Int) by omega], rfl⟩
  | x :: y :: r, hTl, hd, hg =>
    simp only [List.length_cons] at hTl
    have i0 : idx (s.drop a) (j : Int) = some x := by rw [idxN]; have := hg 0; simpa using this
    have i1 : idx (s.drop a) ((j : Int) + 1) = some y := by rw [show ((j : Int) + 1) = ((j + 1 : Nat) : Int) by omega, idxN]; have := hg 1; simpa using this
    have q40 : pre (x :: y :: r) [40, 42] = (decide (x = 40) && decide (y = 42)) := by unfold pre; simp [Bool.decide_and]
    have q42 : pre (x :: y :: r) [42, 41] = (decide (x = 42) && decide (y = 41)) := by unfold pre; simp [Bool.decide_and]
    rw [if_pos (show ltI ((j : Int) + 1) ((s.drop a).length : Int) = true from decide_eq_true (by omega)), i0, i1]
    simp only [obind, e40, e41, e42, q40, q42]
    by_cases ho : x = 40 ∧ y = 42
    · rw [decide_eq_true ho.1, decide_eq_true ho.2]
      simp only [Bool.and_self, if_true, obind, k3, k6, k2]
      rw [if_neg (show ¬ eqI (d + 1) 0 = true from fun h => by have := eqT h; omega)]
      exact go 2 0 (d + 1) (by omega) (by omega) (by omega) (by omega) (by omega) _ _ (by omega) (by omega)
    have hno : (decide (x = 40) && decide (y = 42)) = false := by
      cases h : (decide (x = 40) && decide (y = 42))
      · rfl
      · simp at h; exact (ho h).elim
    have hd1 : 1 ≤ d := by
      rcases hd with h | h
      · exact h
      · rw [q40, hno] at h; cases h
    rw [hno]
    have hb30 : (if decide (x = 40) = true then some (decide (y = 42)) else some false) = some false := by
      by_cases h : x = 40
      · have : ¬ y = 42 := fun e => ho ⟨h, e⟩
        simp [this]
      · simp [h]
    rw [hb30]
    simp only [obind, Bool.false_eq_true, if_false]
    by_cases hc : x = 42 ∧ y = 41
    · rw [decide_eq_true hc.1, decide_eq_true hc.2]
      simp only [Bool.and_self, if_true, obind, k4, k6, k2]
      by_cases hz : d - 1 = 0
      · have hz' : eqI (d - 1) 0 = true := decide_eq_true hz
        rw [hz']
        simp only [if_true]
        exact .inr ⟨j + 2, by rw [show (((a + j : Nat) : Int) + 2) = ((a + (j + 2) : Nat) : Int) by omega], by rw [show (j : Int) + 2 = ((j + 2 : Nat) : Int) by omega], by omega, by omega⟩
      · have hz' : eqI (d - 1) 0 = false := decide_eq_false hz
        rw [hz']
        simp only [Bool.false_eq_true, if_false]
        exact go 2 0 (d - 1) (by omega) (by omega) (by omega) (by omega) (by omega) _ _ (by omega) (by omega)
    · have hnc : (decide (x = 42) && decide (y = 41)) = false := by
        cases h : (decide (x = 42) && decide (y = 41))
        · rfl
        · simp at h; exact (hc h).elim
      have hb55 : (if decide (x = 42) = true then some (decide (y = 41)) else some false) = some false := by
        by_cases h : x = 42
        · have : ¬ y = 41 := fun e => hc ⟨h, e⟩
          simp [this]
        · simp [h]
      rw [hnc, hb55]
      simp only [obind, Bool.false_eq_true, if_false, k5]
      rw [if_neg (show ¬ eqI d 0 = true from fun h => by have := eqT h; omega)]
      exact go 1 0 d (by omega) (by omega) (by omega) (by omega) (by omega) _ _ (by omega) (by omega)
end Go.Proofs.YthbjlmoaceaeeaaDoor
set_option linter.unusedVariables false
set_option linter.unusedSimpArgs false
namespace Go.Proofs.YthbjlmoaceaeeaaDoor
open Go Go.Abs
def blank (c : UInt8) : Bool := decide (c = 32) || (decide (c = 9) || decide (c = 10))
theorem e32 (c : UInt8) : eqI (c.toNat : Int) 32 = decide (c = 32) := eq8 c 32 32 rfl
theorem e9 (c : UInt8) : eqI (c.toNat : Int) 9 = decide (c = 9) := eq8 c 9 9 rfl
theorem e39 (c : UInt8) : eqI (c.toNat : Int) 39 = decide (c = 39) := eq8 c 39 39 rfl
theorem blank_L (c : UInt8) : M.strings_IndexByte [32, 9, 10] c = some (Lib.indexByte [32, 9, 10] c) := rfl
theorem blank_I (c : UInt8) : leI 0 (Lib.indexByte [32, 9, 10] c) = blank c := by
  unfold blank
  by_cases h1 : c = 32
  · subst h1; rfl
  by_cases h2 : c = 9
  · subst h2; rfl
  by_cases h3 : c = 10
  · subst h3; rfl
  have n1 : ¬ 32 = c := fun e => h1 e.symm
  have n2 : ¬ 9 = c := fun e => h2 e.symm
  have n3 : ¬ 10 = c := fun e => h3 e.symm
  have : Lib.indexByte [32, 9, 10] c = -1 := by simp [Lib.indexByte, n1, n2, n3]
  rw [this]
  simp [h1, h2, h3, leI]
theorem blank_R (c : UInt8) : (if eqI (c.toNat : Int) 32 = true then some true else if eqI (c.toNat : Int) 9 = true then some true else some (eqI (c.toNat : Int) 10)) = some (blank c) := by
  rw [e32, e9, e10]
  unfold blank
  cases decide (c = 32) <;> cases decide (c = 9) <;> rfl
theorem comment_ref (s : List UInt8) (a : Nat) (fuel : Nat) (o : Int ⊕ Unit) (h : M.ref02_comment_l1 (s.drop a) fuel 0 0 = some o) : M.ref02_comment fuel (s.drop a) = some (Sum.elim id (fun _ => 0) o) := by
  rw [M.ref02_comment, h]
  cases o <;> rfl
theorem skip_both (s : List UInt8) (hs : s.length ≤ 100000) (w : Lexer.scanner) (hw : w.s = s) (a : Nat) (ha : a ≤ s.length) {fuel : Nat} (hf : s.length + 10 ≤ fuel) : ∀ (n i k k' : Nat), s.length - (a + i) ≤ n → n + 1 ≤ k → n + 1 ≤ k' → a + i ≤ s.length →
    ∃ m : Nat, a + m ≤ s.length ∧
      (((M.lexer_scanner_skip_l1 fuel w k ((a + i : Nat) : Int)).bind (fun o => Sum.elim some (fun o3 => some ((-1 : Int), (Lexer.scanner.mk w.s o3))) o) = some (-1, Lexer.scanner.mk s ((a + m : Nat) : Int)) ∧
        (M.ref02_Skip_l1 fuel (s.drop a) k' (i : Int)).bind (fun o => Sum.elim some (fun o3 => some (o3, false)) o) = some ((m : Int), false)) ∨
      (∃ sc, (M.lexer_scanner_skip_l1 fuel w k ((a + i : Nat) : Int)).bind (fun o => Sum.elim some (fun o3 => some ((-1 : Int), (Lexer.scanner.mk w.s o3))) o) = some (((a + m : Nat) : Int), sc) ∧
        (M.ref02_Skip_l1 fuel (s.drop a) k' (i : Int)).bind (fun o => Sum.elim some (fun o3 => some (o3, false)) o) = some ((m : Int), true))) := by
  subst hw
  intro n
  induction n using Nat.strongRecOn with
  | _ n ih =>
  intro i k k' hn hk hk' hi
  obtain ⟨g, rfl⟩ : ∃ g, k = g + 1 := ⟨k - 1, by omega⟩
  obtain ⟨g', rfl⟩ : ∃ g, k' = g + 1 := ⟨k' - 1, by omega⟩
  have hlen : (w.s.drop a).length = w.s.length - a := by simp
  rw [M.lexer_scanner_skip_l1, M.ref02_Skip_l1]
  by_cases hend : w.s.length ≤ a + i
  · rw [if_neg (show ¬ ltI ((a + i : Nat) : Int) (w.s.length : Int) = true from fun h => by have := ltT h; omega), if_neg (show ¬ ltI (i : Int) ((w.s.drop a).length : Int) = true from fun h => by have := ltT h; omega)]
    exact ⟨i, hi, .inl ⟨rfl, rfl⟩⟩
  have hx : w.s[a + i]? = some w.s[a + i] := List.getElem?_eq_getElem (by omega)
  have hd : w.s.drop (a + i) = w.s[a + i] :: w.s.drop (a + i + 1) := List.drop_eq_getElem_cons (by omega)
  generalize w.s[a + i] = c at hx hd
  have k5 : chk .i64 (((a + i : Nat) : Int) + 1) = some (((a + i : Nat) : Int) + 1) := chk64 (by omega) (by omega)
  have k1 : chk .i64 ((i : Int) + 1) = some ((i : Int) + 1) := chk64 (by omega) (by omega)
  have hidx : idx (w.s.drop a) (i : Int) = some c := by rw [idxN]; simpa using hx
  rw [if_pos (show ltI ((a + i : Nat) : Int) (w.s.length : Int) = true from decide_eq_true (by omega)), if_pos (show ltI (i : Int) ((w.s.drop a).length : Int) = true from decide_eq_true (by omega)), subD w.s (a + i) (by omega), hidx]
  have h0 : (w.s.drop (a + i))[0]? = some c := by rw [hd]; rfl
  simp only [obind, h0, blank_L, blank_I]
  rw [blank_R]
  simp only [obind]
  cases hb : blank c
  case true =>
    simp only [if_true, k5, k1, obind]
    have := ih (n - 1) (by omega) (i + 1) g g' (by omega) (by omega) (by omega) (by omega)
    rw [show ((a + (i + 1) : Nat) : Int) = ((a + i : Nat) : Int) + 1 by omega, show ((i + 1 : Nat) : Int) = (i : Int) + 1 by omega] at this
    exact this
  simp only [Bool.false_eq_true, if_false]
  have hsub : subC (w.s.drop a) (i : Int) ((w.s.drop a).length : Int) = some (w.s.drop (a + i)) := by
    rw [subD (w.s.drop a) i (by omega), List.drop_drop]
  rw [hsub]
  simp only [obind, has_M, begins_M]
  cases hp : pre (w.s.drop (a + i)) [40, 42]
  · exact ⟨i, hi, .inl ⟨rfl, rfl⟩⟩
  simp only [if_true, Bool.not_true, Bool.false_eq_true, if_false]
  rcases comment_both w.s hs w rfl (a + i) (by omega) ((a + i : Nat) : Int) (w.s.length - (a + i)) 0 fuel fuel 0 0 ((a + i : Nat) : Int) rfl rfl (by omega) (by omega) (by omega) (by omega) (by omega) (.inr (by simpa using hp)) (by omega) with ⟨l1, l2⟩ | ⟨m, l1, l2, l3, l4⟩
  · rw [l1, comment_ref w.s (a + i) fuel _ l2]
    exact ⟨i, hi, .inr ⟨_, rfl, rfl⟩⟩
  · rw [l1, comment_ref w.s (a + i) fuel _ l2]
    have hm : eqI (m : Int) 0 = false := decide_eq_false (by omega)
    have k7 : chk .i64 ((i : Int) + (m : Int)) = some ((i : Int) + (m : Int)) := chk64 (by omega) (by omega)
    simp only [obind, Sum.elim_inr, Sum.elim_inl, id, hm, Bool.false_eq_true, if_false, k7]
    have := ih (n - 1) (by omega) (i + m) g g' (by omega) (by omega) (by omega) (by omega)
    rw [show (a + (i + m)) = a + i + m by omega] at this
    rw [show ((i + m : Nat) : Int) = (i : Int) + (m : Int) by omega] at this
    exact this
theorem vis_N (n : Nat) : ((ltI (n : Int) 32) || (ltI 126 (n : Int))) = !(decide (32 ≤ n) && decide (n ≤ 126)) := by
  cases h1 : ltI (n : Int) 32
  · have c1 := ltF h1
    cases h2 : ltI 126 (n : Int)
    · have c2 := ltF h2
      rw [decide_eq_true (by omega : 32 ≤ n), decide_eq_true (by omega : n ≤ 126)]; rfl
    · have c2 := ltT h2
      rw [decide_eq_false (by omega : ¬ n ≤ 126)]; simp
  · have c1 := ltT h1
    rw [decide_eq_false (by omega : ¬ 32 ≤ n)]; simp
theorem lit_both (s : List UInt8) (hs : s.length ≤ 100000) : ∀ (n i k k' : Nat) (b : List UInt8), s.length - i ≤ n → n + 1 ≤ k → n + 1 ≤ k' → i ≤ s.length → b.length + n ≤ 1000000 →
    ∃ (x : List UInt8) (N p e : Int), (M.lexer_literal_l1 s k b i).bind (fun o => Sum.elim some (fun o4 => some (([] : List UInt8), (0 : Int), (0 : Int), (4 : Int))) o) = some (x, N, p, e) ∧
      (M.ref02_literal_l1 s k' b (i : Int)).bind (fun o => Sum.elim some (fun o4 => if eqI o4.2 (s.length : Int) then some (([] : List UInt8), (0 : Int), (4 : Int), (0 : Int)) else (chk .i64 (o4.2 + 1)).bind fun n106 => some (o4.1, n106, 0, 0)) o) = some (x, N, e, p) ∧
      (e = 0 → ∃ q : Nat, N = q ∧ i < q ∧ q ≤ s.length) ∧ (∃ q : Nat, p = q ∧ q ≤ s.length) := by
  intro n
  induction n using Nat.strongRecOn with
  | _ n ih =>
  intro i k k' b hn hk hk' hi hb
  obtain ⟨g, rfl⟩ : ∃ g, k = g + 1 := ⟨k - 1, by omega⟩
  obtain ⟨g', rfl⟩ : ∃ g, k' = g + 1 := ⟨k' - 1, by omega⟩
  rw [M.lexer_literal_l1, M.ref02_literal_l1]
  by_cases hend : s.length ≤ i
  · rw [if_neg (show ¬ ltI (i : Int) (s.length : Int) = true from fun h => by have := ltT h; omega), if_neg (show ¬ ltI (i : Int) (s.length : Int) = true from fun h => by have := ltT h; omega)]
    have he : eqI (i : Int) (s.length : Int) = true := decide_eq_true (by omega)
    refine ⟨[], 0, 0, 4, rfl, ?_, (fun h => absurd h (by decide)), 0, rfl, by omega⟩
    simp only [obind, Bool.false_eq_true, if_false, Sum.elim_inr, he, if_true]
  have hx : s[i]? = some s[i] := List.getElem?_eq_getElem (by omega)
  generalize s[i] = c at hx
  have hidx : idx s (i : Int) = some c := by rw [idxN]; exact hx
  have k1 : chk .i64 ((i : Int) + 1) = some ((i : Int) + 1) := chk64 (by omega) (by omega)
  have k2 : chk .i64 ((i : Int) + 2) = some ((i : Int) + 2) := chk64 (by omega) (by omega)
  have hlt : ltI (i : Int) (s.length : Int) = true := decide_eq_true (by omega)
  have next : ∀ (j : Nat) (z : UInt8), i < j → j ≤ s.length → ∃ (x : List UInt8) (N p e : Int), (M.lexer_literal_l1 s g (b ++ [z]) j).bind (fun o => Sum.elim some (fun o4 => some (([] : List UInt8), (0 : Int), (0 : Int), (4 : Int))) o) = some (x, N, p, e) ∧
      (M.ref02_literal_l1 s g' (b ++ [z]) (j : Int)).bind (fun o => Sum.elim some (fun o4 => if eqI o4.2 (s.length : Int) then some (([] : List UInt8), (0 : Int), (4 : Int), (0 : Int)) else (chk .i64 (o4.2 + 1)).bind fun n106 => some (o4.1, n106, 0, 0)) o) = some (x, N, e, p) ∧
      (e = 0 → ∃ q : Nat, N = q ∧ i < q ∧ q ≤ s.length) ∧ (∃ q : Nat, p = q ∧ q ≤ s.length) := fun j z hj1 hj2 => by
    obtain ⟨x, N, p, e, h1, h2, h3, h4⟩ := ih (n - 1) (by omega) j g g' (b ++ [z]) (by omega) (by omega) (by omega) hj2 (by simp; omega)
    exact ⟨x, N, p, e, h1, h2, fun h => by obtain ⟨q, q1, q2, q3⟩ := h3 h; exact ⟨q, q1, by omega, q3⟩, h4⟩
  have hcat : ∀ z : UInt8, cat b [z] = some (b ++ [z]) := fun z => by rw [cat, if_pos (by simp; omega)]
  have hwb : ∀ z : UInt8, M.strings_Builder_WriteByte z b = some (b ++ [z]) := fun z => wb_M (by omega)
  simp only [hlt, if_true, hx, hidx, obind, e34, e92, e110]
  by_cases c34 : c = 34
  · rw [decide_eq_true c34]
    have he : eqI (i : Int) (s.length : Int) = false := decide_eq_false (by omega)
    refine ⟨b, (i : Int) + 1, 0, 0, rfl, ?_, fun _ => ⟨i + 1, by omega, by omega, by omega⟩, 0, rfl, by omega⟩
    simp only [obind, Bool.not_true, Bool.false_eq_true, if_false, Sum.elim_inr, he, k1]
  rw [decide_eq_false c34]
  simp only [Bool.false_eq_true, if_false, Bool.not_false, if_true, obind]
  by_cases c92 : c = 92
  · rw [decide_eq_true c92]
    simp only [if_true, Bool.true_and, k1, obind]
    by_cases hlt2 : i + 1 < s.length
    · have hx2 : s[i + 1]? = some s[i + 1] := List.getElem?_eq_getElem hlt2
      generalize s[i + 1] = z at hx2
      have hidx2 : idx s ((i : Int) + 1) = some z := by rw [show ((i : Int) + 1) = ((i + 1 : Nat) : Int) by omega, idxN]; exact hx2
      have h1 : ltI ((i + 1 : Nat) : Int) (s.length : Int) = true := decide_eq_true (by omega)
      have h2 : eqI ((i : Int) + 1) (s.length : Int) = false := decide_eq_false (by omega)
      have e2 : ((i : Int) + 2) = ((i + 1 + 1 : Nat) : Int) := by omega
      simp only [h1, if_true, hx2, obind, h2, Bool.false_eq_true, if_false, hidx2, e34, e92, e110, hcat, hwb, k2]
      by_cases z34 : z = 34
      · subst z34
        simp only [decide_true, if_true, show decide ((34 : UInt8) = 110) = false from rfl, Bool.false_eq_true, if_false]
        rw [e2]
        exact next (i + 1 + 1) 34 (by omega) (by omega)
      by_cases z92 : z = 92
      · subst z92
        simp only [decide_true, if_true, show decide ((92 : UInt8) = 110) = false from rfl, show decide ((92 : UInt8) = 34) = false from rfl, Bool.false_eq_true, if_false]
        rw [e2]
        exact next (i + 1 + 1) 92 (by omega) (by omega)
      by_cases z110 : z = 110
      · subst z110
        simp only [decide_true, if_true, show decide ((110 : UInt8) = 92) = false from rfl, show decide ((110 : UInt8) = 34) = false from rfl, Bool.false_eq_true, if_false]
        rw [e2]
        exact next (i + 1 + 1) 10 (by omega) (by omega)
      simp only [decide_eq_false z34, decide_eq_false z92, decide_eq_false z110, Bool.false_eq_true, if_false, obind, Sum.elim_inl]
      exact ⟨[], 0, (i : Int), 3, by rw [show (((i + 1 : Nat) : Int) - 1) = (i : Int) by omega], rfl, (fun h => absurd h (by decide)), i, rfl, by omega⟩
    · have h1 : ltI ((i + 1 : Nat) : Int) (s.length : Int) = false := decide_eq_false (by omega)
      have h2 : eqI ((i : Int) + 1) (s.length : Int) = true := decide_eq_true (by omega)
      simp only [h1, Bool.false_eq_true, if_false, h2, if_true]
      exact ⟨[], 0, 0, 4, rfl, rfl, (fun h => absurd h (by decide)), 0, rfl, by omega⟩
  · rw [decide_eq_false c92]
    simp only [Bool.false_and, Bool.false_eq_true, if_false, vis_M, obind]
    have hv := vis_N c.toNat
    rw [hv]
    cases hvv : (decide (32 ≤ c.toNat) && decide (c.toNat ≤ 126))
    · exact ⟨[], 0, (i : Int), 3, rfl, rfl, (fun h => absurd h (by decide)), i, rfl, by omega⟩
    · have hsub : subC s (i : Int) ((i : Int) + 1) = some [c] := by
        rw [subC, if_pos ⟨by omega, by omega, by omega⟩]
        have : s.drop i = c :: s.drop (i + 1) := by
          obtain ⟨hl, he⟩ := List.getElem?_eq_some_iff.1 hx
          rw [List.drop_eq_getElem_cons hl, he]
        have e1 : ((i : Int) + 1).toNat - (i : Int).toNat = 1 := by omega
        unfold sub
        rw [e1, Int.toNat_natCast, this]
        rfl
      simp only [Bool.not_true, Bool.false_eq_true, if_false, hwb, obind, k1, hsub, hcat]
      rw [show ((i : Int) + 1) = ((i + 1 : Nat) : Int) by omega]
      exact next (i + 1) c (by omega) (by omega)
theorem literal_both (s : List UInt8) {fuel : Nat} (hs : s.length ≤ 100000) (h1 : 1 ≤ s.length) (hf : s.length + 1 ≤ fuel) : ∃ (x : List UInt8) (N p e : Int), M.lexer_literal fuel s = some (x, N, p, e) ∧ M.ref02_literal fuel s = some (x, N, e, p) ∧
      (e = 0 → ∃ q : Nat, N = q ∧ 1 ≤ q ∧ q ≤ s.length) ∧ (∃ q : Nat, p = q ∧ q ≤ s.length) := by
  obtain ⟨x, N, p, e, a1, a2, a3, a4⟩ := lit_both s hs s.length 1 fuel fuel [] (by omega) (by omega) (by omega) h1 (by simp; omega)
  exact ⟨x, N, p, e, a1, a2, fun h => by obtain ⟨q, q1, q2, q3⟩ := a3 h; exact ⟨q, q1, by omega, q3⟩, a4⟩
end Go.Proofs.YthbjlmoaceaeeaaDoor
set_option linter.unusedVariables false
set_option linter.unusedSimpArgs false
namespace Go.Proofs.YthbjlmoaceaeeaaDoor
open Go Go.Abs
def TOK (s : List UInt8) (a : Nat) (L : Api.Token × Int × Int × Lexer.scanner) (R : Api.Token × Int × Int × Int) : Prop :=
  (L.2.2.1 = 0 ∧ R.2.2.1 = 0 ∧ L.1.Kind = R.1.Kind ∧ L.1.Text = R.1.Text ∧ ∃ N : Nat, R.2.1 = N ∧ 1 ≤ N ∧ a + N ≤ s.length ∧ L.2.2.2 = Lexer.scanner.mk s ((a + N : Nat) : Int)) ∨
  (L.2.2.1 ≠ 0 ∧ R.2.2.1 = L.2.2.1 ∧ ∃ P : Nat, R.2.2.2 = P ∧ a + P ≤ s.length ∧ L.2.1 = ((a + P : Nat) : Int))
theorem t1_M (kind n : Int) (text s : List UInt8) (a N : Nat) (hn : n = N) (h : a + N ≤ 1000000) : M.lexer_scanner_token_1 kind n text (Lexer.scanner.mk s (a : Int)) = some (Api.Token.mk kind text (Api.Pos.mk 0 0), 0, 0, Lexer.scanner.mk s ((a + N : Nat) : Int)) := by
  have k : chk .i64 ((a : Int) + n) = some ((a + N : Nat) : Int) := by rw [chk64 (by omega) (by omega)]; congr 1; omega
  rw [M.lexer_scanner_token_1]
  dsimp only
  rw [k]; rfl
theorem t2_M (by_ e : Int) (s : List UInt8) (a P : Nat) (hp : by_ = P) (h : a + P ≤ 1000000) : M.lexer_scanner_token_2 by_ e (Lexer.scanner.mk s (a : Int)) = some (Api.Token.mk 0 [] (Api.Pos.mk 0 0), ((a + P : Nat) : Int), e) := by
  have k : chk .i64 ((a : Int) + by_) = some ((a + P : Nat) : Int) := by rw [chk64 (by omega) (by omega)]; congr 1; omega
  rw [M.lexer_scanner_token_2]
  dsimp only
  rw [k]; rfl
theorem cw_pos {p : UInt8 → Bool} {c : UInt8} {r : List UInt8} (h : p c = true) : 1 ≤ cw p (c :: r) 0 := by
  rw [cw_step p (c :: r) 0 c rfl, if_pos h]
  exact (cw_le p (c :: r) 1 (by simp)).1
theorem sm_in {c : UInt8} (h : (smB c || caB c) = true) : inB c = true := by
  unfold inB
  cases h1 : smB c
  · rw [h1] at h; rw [Bool.false_or] at h; rw [h]; rfl
  · rfl
theorem cw_shift {p : UInt8 → Bool} {c : UInt8} {r : List UInt8} (h : p c = true) : cw p (c :: r) 0 = 1 + cw p r 0 := by
  rw [cw_step p (c :: r) 0 c rfl, if_pos h]
  unfold cw
  simp
theorem tw_all (p : UInt8 → Bool) : ∀ l : List UInt8, ∀ c ∈ l.takeWhile p, p c = true
  | [], c, h => by cases h
  | x :: l, c, h => by
    rw [List.takeWhile_cons] at h
    split at h
    · rename_i hx
      rcases List.mem_cons.1 h with rfl | h
      · exact hx
      · exact tw_all p l c h
    · cases h
theorem take_all (p : UInt8 → Bool) (t : List UInt8) : ∀ c ∈ t.take (cw p t 0), p c = true := by
  intro c hc
  have e : t.take (cw p t 0) = t.takeWhile p := by
    unfold cw
    simp only [List.drop_zero, Nat.zero_add]
    exact (List.prefix_iff_eq_take.1 (List.takeWhile_prefix p)).symm
  rw [e] at hc
  exact tw_all p t c hc
theorem token_both (s : List UInt8) (hs : s.length ≤ 100000) (a : Nat) (ha : a < s.length) {fuel : Nat} (hf : s.length + 100 ≤ fuel) :
    ∃ L R, M.lexer_scanner_token fuel (Lexer.scanner.mk s (a : Int)) = some L ∧ M.ref02_Next fuel (s.drop a) = some R ∧ TOK s a L R := by
  have n3 : (3 : Int) ≠ 0 := by decide
  have n5 : (5 : Int) ≠ 0 := by decide
  have hlen : (s.drop a).length = s.length - a := by simp
  rw [M.lexer_scanner_token, M.ref02_Next]
  dsimp only
  rw [subD s a (by omega)]
  simp only [obind]
  have hTb : (s.drop a).length ≤ 100000 := by omega
  have hTf : (s.drop a).length + 1 ≤ fuel := by omega
  have hTp : 1 ≤ (s.drop a).length := by omega
  generalize s.drop a = T at hlen hTb hTf hTp
  match T, hlen, hTb, hTf, hTp with
  | c :: r, hlen, hTb, hTf, _ =>
  have b13 : (if smB c = true then some true else some (caB c)) = some (smB c || caB c) := by cases smB c <;> rfl
  rw [names_cons hTb hTf]
  simp only [List.getElem?_cons_zero, obind, small_M, capital_M, Small_M, digit_M, Digit_M, b13]
  have w0 : Lexer.scanner.mk s (a : Int) = Lexer.scanner.mk s (a : Int) := rfl
  cases hsc : (smB c || caB c)
  case true =>
    have hp := cw_pos (r := r) (sm_in hsc)
    have hle := (cw_le inB (c :: r) 0 (by simp)).2
    rw [inner_len hTb hTf]
    have hlt0 : ltI 0 ((cw inB (c :: r) 0 : Nat) : Int) = true := decide_eq_true (by omega)
    simp only [if_true, obind, hlt0]
    generalize hN : cw inB (c :: r) 0 = N at hp hle
    rw [subT (c :: r) N hle]
    simp only [obind, Keyword_M]
    rw [Word_M _ (by omega)]
    simp only [obind]
    have tl : ((c :: r).take N).length = N := by rw [List.length_take]; omega
    have hsml : smB c = false → caB c = true := fun h => by rw [h, Bool.false_or] at hsc; exact hsc
    cases hw : WORDS.any (fun w => eqS ((c :: r).take N) w)
    · by_cases h24 : 24 < N
      · have h24' : ltI 24 (N : Int) = true := decide_eq_true (by omega)
        rw [t2_M 0 5 s a 0 rfl (by omega)]
        simp only [Bool.false_eq_true, if_false, h24', if_true, obind]
        refine ⟨_, (Api.Token.mk 0 [] (Api.Pos.mk 0 0), 0, 5, 0), rfl, ?_, .inr ⟨n5, rfl, 0, rfl, by omega, rfl⟩⟩
        cases smB c <;> rfl
      · have h24' : ltI 24 (N : Int) = false := decide_eq_false (by omega)
        rw [t1_M 1 (N : Int) _ s a N rfl (by omega), t1_M 2 (N : Int) _ s a N rfl (by omega)]
        simp only [Bool.false_eq_true, if_false, h24', obind]
        cases smB c
        · exact ⟨_, _, rfl, rfl, .inl ⟨rfl, rfl, rfl, rfl, N, rfl, hp, by omega, rfl⟩⟩
        · exact ⟨_, _, rfl, rfl, .inl ⟨rfl, rfl, rfl, rfl, N, rfl, hp, by omega, rfl⟩⟩
    · have hsh := words_short hw
      rw [tl] at hsh
      have h24' : ltI 24 (N : Int) = false := decide_eq_false (by omega)
      rw [t1_M 6 (N : Int) _ s a N rfl (by omega)]
      simp only [if_true, Bool.false_eq_true, if_false, h24', obind]
      refine ⟨_, (Api.Token.mk 6 ((c :: r).take N) (Api.Pos.mk 0 0), (N : Int), 0, 0), rfl, ?_, .inl ⟨rfl, rfl, rfl, rfl, N, rfl, hp, by omega, rfl⟩⟩
      cases smB c <;> rfl
  simp only [Bool.false_eq_true, if_false]
  have hlt0 : ltI 0 0 = false := rfl
  simp only [hlt0, Bool.false_eq_true, if_false, e39]
  by_cases c39 : c = 39
  ·
    rw [decide_eq_true c39]
    simp only [if_true]
    have hsub : subC (c :: r) 1 ((c :: r).length : Int) = some r := by have := subD (c :: r) 1 (by simp); simpa using this
    rw [hsub]
    simp only [obind]
    simp only [List.length_cons] at hlen hTb hTf
    have wrong : ∀ X : Option (Api.Token × Int × Int × Lexer.scanner), X = (M.lexer_scanner_token_2 0 3 (Lexer.scanner.mk s (a : Int))).bind (fun v60 => some (v60.1, v60.2.1, v60.2.2, Lexer.scanner.mk s (a : Int))) →
        ∃ L R, X = some L ∧ (some (Api.Token.mk 0 ([] : List UInt8) (Api.Pos.mk 0 0), (0 : Int), (3 : Int), (0 : Int)) : Option (Api.Token × Int × Int × Int)) = some R ∧ TOK s a L R := fun X hX => by
      rw [t2_M 0 3 s a 0 rfl (by omega)] at hX
      exact ⟨_, _, hX, rfl, .inr ⟨n3, rfl, 0, rfl, by omega, rfl⟩⟩
    match r, hlen, hTb, hTf with
    | [], hlen, hTb, hTf =>
      have h2 : ltI (([c] : List UInt8).length : Int) 2 = true := decide_eq_true (by simp)
      simp only [h2, if_true, obind, names_nil]
      exact wrong _ rfl
    | d :: r', hlen, hTb, hTf =>
      simp only [List.length_cons] at hlen hTb hTf
      have h2 : ltI ((c :: d :: r' : List UInt8).length : Int) 2 = false := decide_eq_false (by simp; omega)
      rw [names_cons (by simp; omega) (by simp; omega)]
      simp only [h2, Bool.false_eq_true, if_false, List.getElem?_cons_succ, List.getElem?_cons_zero, obind, small_M, Small_M]
      cases hd : smB d
      · have hb54 : (if eqI (if (false || caB d) = true then ((cw inB (d :: r') 0 : Nat) : Int) else 0) 0 = true then some true else some (!false)) = some true := by
          cases eqI (if (false || caB d) = true then ((cw inB (d :: r') 0 : Nat) : Int) else 0) 0 <;> rfl
        simp only [Bool.not_false, if_true, obind]
        rw [show (!false) = true from rfl] at hb54
        rw [hb54]
        simp only [obind, if_true]
        exact wrong _ rfl
      · have hin : inB d = true := by unfold inB; rw [hd]; rfl
        have hp := cw_pos (r := r') hin
        have hle := (cw_le inB (d :: r') 0 (by simp)).2
        have hn0 : eqI ((cw inB (d :: r') 0 : Nat) : Int) 0 = false := decide_eq_false (by omega)
        simp only [Bool.true_or, if_true, hn0, Bool.false_eq_true, if_false, Bool.not_true, obind]
        rw [inner_len (by simp; omega) (by simp; omega)]
        simp only [obind]
        generalize cw inB (d :: r') 0 = N at hp hle
        simp only [List.length_cons] at hle
        have k1 : chk .i64 (1 + (N : Int)) = some ((N + 1 : Nat) : Int) := by rw [chk64 (by omega) (by omega)]; congr 1; omega
        have k2 : chk .i64 ((N : Int) + 1) = some ((N + 1 : Nat) : Int) := by rw [chk64 (by omega) (by omega)]; congr 1
        rw [k1, k2]
        simp only [obind]
        by_cases h24 : 24 < N + 1
        · have h24' : ltI 24 ((N + 1 : Nat) : Int) = true := decide_eq_true (by omega)
          rw [t2_M 0 5 s a 0 rfl (by omega)]
          simp only [h24', if_true, obind]
          exact ⟨_, _, rfl, rfl, .inr ⟨n5, rfl, 0, rfl, by omega, rfl⟩⟩
        · have h24' : ltI 24 ((N + 1 : Nat) : Int) = false := decide_eq_false (by omega)
          rw [subT (c :: d :: r') (N + 1) (by simp; omega)]
          simp only [h24', Bool.false_eq_true, if_false, obind]
          rw [t1_M 3 ((N + 1 : Nat) : Int) _ s a (N + 1) rfl (by omega)]
          exact ⟨_, _, rfl, rfl, .inl ⟨rfl, rfl, rfl, rfl, N + 1, rfl, by omega, by omega, rfl⟩⟩
  rw [decide_eq_false c39]
  simp only [Bool.false_eq_true, if_false]
  cases hdi : diB c
  case true =>
    have hp := cw_pos (r := r) hdi
    have hle := (cw_le diB (c :: r) 0 (by simp)).2
    rw [digit_len hTb hTf]
    have hN2 : M.ref02_Next_l1 (c :: r) fuel 0 = some ((cw diB (c :: r) 0 : Nat) : Int) := Next_loop (c :: r) hTb (c :: r).length 0 fuel 0 rfl (by omega) (by omega) (by omega)
    rw [hN2]
    have hall := take_all diB (c :: r)
    simp only [if_true, obind]
    generalize cw diB (c :: r) 0 = N at hp hle hall
    rw [subT (c :: r) N hle]
    simp only [obind]
    obtain ⟨e, he⟩ := number_total ((c :: r).take N) (fuel := fuel) hall (by rw [List.length_take]; omega)
    rw [← number_eq, he]
    simp only [obind]
    by_cases e0 : e = 0
    · have h0 : eqI e 0 = true := decide_eq_true e0
      rw [h0, t1_M 4 (N : Int) _ s a N rfl (by omega)]
      exact ⟨_, _, rfl, rfl, .inl ⟨rfl, e0, rfl, rfl, N, rfl, hp, by omega, rfl⟩⟩
    · have h0 : eqI e 0 = false := decide_eq_false e0
      rw [h0, t2_M 0 e s a 0 rfl (by omega)]
      exact ⟨_, _, rfl, rfl, .inr ⟨e0, rfl, 0, rfl, by omega, rfl⟩⟩
  simp only [Bool.false_eq_true, if_false, e34]
  by_cases c34 : c = 34
  ·
    rw [decide_eq_true c34]
    obtain ⟨x, N, p, e, l1, l2, l3, P, hP, hPl⟩ := literal_both (c :: r) (fuel := fuel) hTb (by simp) hTf
    rw [l1, l2]
    simp only [if_true, obind]
    by_cases e0 : e = 0
    · obtain ⟨q, hq, q1, q2⟩ := l3 e0
      have h0 : eqI e 0 = true := decide_eq_true e0
      rw [h0, t1_M 5 N x s a q hq (by omega)]
      exact ⟨_, _, rfl, rfl, .inl ⟨rfl, e0, rfl, rfl, q, hq, q1, by omega, rfl⟩⟩
    · have h0 : eqI e 0 = false := decide_eq_false e0
      have hb : a + P ≤ 1000000 := by clear l3; omega
      have hb2 : a + P ≤ s.length := by clear l3; omega
      rw [h0, t2_M p e s a P hP hb]
      exact ⟨_, _, rfl, rfl, .inr ⟨e0, rfl, P, hP, hb2, rfl⟩⟩
  rw [decide_eq_false c34]
  obtain ⟨y, y1, y2, y3⟩ := Symbol_both c r (fuel := fuel) (by omega)
  rw [y1, y2]
  simp only [Bool.false_eq_true, if_false, obind]
  by_cases hy : y = []
  · subst hy
    have h1 : decide (([] : List UInt8) ≠ []) = false := by simp
    have h2 : eqS ([] : List UInt8) [] = true := rfl
    rw [h1, h2, t2_M 0 3 s a 0 rfl (by omega)]
    exact ⟨_, _, rfl, rfl, .inr ⟨n3, rfl, 0, rfl, by omega, rfl⟩⟩
  · have h1 : decide (y ≠ []) = true := decide_eq_true hy
    have h2 : eqS y [] = false := decide_eq_false hy
    have hyl : 1 ≤ y.length := by
      cases y with
      | nil => exact (hy rfl).elim
      | cons z y => simp
    rw [h1, h2, t1_M 7 (y.length : Int) y s a y.length rfl (by omega)]
    exact ⟨_, _, rfl, rfl, .inl ⟨rfl, rfl, rfl, rfl, y.length, rfl, hyl, by omega, rfl⟩⟩
theorem Tokens_both (s : List UInt8) (hs : s.length ≤ 16384) {fuel : Nat} (hf : s.length + 100 ≤ fuel) : ∀ (n a k k' : Nat) (out : List Api.Token), s.length - a ≤ n → n + 1 ≤ k → n + 1 ≤ k' → a ≤ s.length → out.length ≤ 20000 →
    ∃ r, M.lexer_Tokens_l1 fuel s k s (a : Int) out = some r ∧ M.ref02_Tokens_l1 fuel s k' out (a : Int) = some r ∧ r.1.length ≤ out.length + (s.length - a) + 1 := by
  intro n
  induction n using Nat.strongRecOn with
  | _ n ih =>
  intro a k k' out hn hk hk' ha ho
  obtain ⟨g, rfl⟩ : ∃ g, k = g + 1 := ⟨k - 1, by omega⟩
  obtain ⟨g', rfl⟩ : ∃ g, k' = g + 1 := ⟨k' - 1, by omega⟩
  rw [M.lexer_Tokens_l1, M.ref02_Tokens_l1, subD s a ha]
  simp only [obind]
  have sk := skip_both s (by omega) (Lexer.scanner.mk s (a : Int)) rfl a ha (fuel := fuel) (by omega) (s.length - a) 0 fuel fuel (by omega) (by omega) (by omega) (by omega)
  have happ : ∀ t : Api.Token, app 40 out [t] = some (out ++ [t]) := fun t => app_some (by decide) (by simp; omega)
  rcases sk with ⟨m, hm, ⟨s1, s2⟩ | ⟨sc, s1, s2⟩⟩
  · have s1' : M.lexer_scanner_skip fuel (Lexer.scanner.mk s (a : Int)) = some (-1, Lexer.scanner.mk s ((a + m : Nat) : Int)) := by rw [M.lexer_scanner_skip]; exact s1
    have s2' : M.ref02_Skip fuel (s.drop a) = some ((m : Int), false) := by rw [M.ref02_Skip]; exact s2
    have hm1 : leI 0 (-1) = false := rfl
    have k1 : chk .i64 ((a : Int) + (m : Int)) = some ((a + m : Nat) : Int) := by rw [chk64 (by omega) (by omega)]; congr 1
    rw [s1', s2']
    simp only [obind, hm1, Bool.false_eq_true, if_false, k1]
    by_cases hend : s.length ≤ a + m
    · have h1 : leI (s.length : Int) ((a + m : Nat) : Int) = true := decide_eq_true (by omega)
      have h2 : eqI ((a + m : Nat) : Int) (s.length : Int) = true := decide_eq_true (by omega)
      have e : a + m = s.length := by omega
      rw [h1, h2, e, place_M s s.length (by omega) (by omega) (by omega), Place_M s s.length (by omega) (by omega) (by omega)]
      simp only [if_true, obind, happ]
      exact ⟨_, rfl, rfl, by simp only [List.length_append, List.length_cons, List.length_nil]; omega⟩
    have h1 : leI (s.length : Int) ((a + m : Nat) : Int) = false := decide_eq_false (by omega)
    have h2 : eqI ((a + m : Nat) : Int) (s.length : Int) = false := decide_eq_false (by omega)
    rw [h1, h2]
    simp only [Bool.false_eq_true, if_false]
    rw [place_M s (a + m) (by omega) (by omega) (by omega), Place_M s (a + m) (by omega) (by omega) (by omega)]
    by_cases hfull : out.length = 20000
    · have h3 : eqI (out.length : Int) 20000 = true := decide_eq_true (by omega)
      rw [h3]
      exact ⟨_, rfl, rfl, by simp⟩
    have h3 : eqI (out.length : Int) 20000 = false := decide_eq_false (by omega)
    rw [h3]
    simp only [Bool.false_eq_true, if_false]
    rw [subD s (a + m) (by omega)]
    obtain ⟨L, R, l1, l2, ht⟩ := token_both s (by omega) (a + m) (by omega) (fuel := fuel) (by omega)
    rw [l1]
    simp only [obind]
    rw [l2]
    simp only [obind]
    rcases ht with ⟨t1, t2, t3, t4, N, t5, t6, t7, t8⟩ | ⟨t1, t2, P, t3, t4, t5⟩
    · have h4 : eqI L.2.2.1 0 = true := decide_eq_true t1
      have h5 : eqI R.2.2.1 0 = true := decide_eq_true t2
      rw [h4, h5, t3, t4, t5, t8]
      simp only [Bool.not_true, Bool.false_eq_true, if_false, obind, happ]
      have k2 : chk .i64 (((a + m : Nat) : Int) + (N : Int)) = some ((a + m + N : Nat) : Int) := by rw [chk64 (by omega) (by omega)]; congr 1
      rw [k2]
      simp only [obind]
      have ⟨r, r1, r2, r3⟩ := ih (n - 1) (by omega) (a + m + N) g g' (out ++ [Api.Token.mk R.1.Kind R.1.Text (PL s (a + m))]) (by omega) (by omega) (by omega) (by omega) (by simp; omega)
      refine ⟨r, r1, r2, ?_⟩
      simp at r3
      omega
    · have h4 : eqI L.2.2.1 0 = false := decide_eq_false t1
      have h5 : eqI R.2.2.1 0 = false := by rw [t2]; exact h4
      have k2 : chk .i64 (((a + m : Nat) : Int) + R.2.2.2) = some ((a + m + P : Nat) : Int) := by rw [t3, chk64 (by omega) (by omega)]; congr 1
      rw [h4, h5, t5]
      simp only [Bool.not_false, if_true, k2, obind]
      rw [place_M s (a + m + P) (by omega) (by omega) (by omega), Place_M s (a + m + P) (by omega) (by omega) (by omega), t2]
      exact ⟨_, rfl, rfl, by simp⟩
  · have s1' : M.lexer_scanner_skip fuel (Lexer.scanner.mk s (a : Int)) = some (((a + m : Nat) : Int), sc) := by rw [M.lexer_scanner_skip]; exact s1
    have s2' : M.ref02_Skip fuel (s.drop a) = some ((m : Int), true) := by rw [M.ref02_Skip]; exact s2
    have hm1 : leI 0 ((a + m : Nat) : Int) = true := decide_eq_true (by omega)
    have k1 : chk .i64 ((a : Int) + (m : Int)) = some ((a + m : Nat) : Int) := by rw [chk64 (by omega) (by omega)]; congr 1
    rw [s1', s2']
    simp only [obind, hm1, if_true, k1]
    rw [place_M s (a + m) (by omega) (by omega) (by omega), Place_M s (a + m) (by omega) (by omega) (by omega)]
    exact ⟨_, rfl, rfl, by simp⟩
theorem Same_loop (l : List Api.Token) : ∀ (n i k : Nat), i + n = l.length → n + 1 ≤ k → M.ref02_Same_l1 l l true k i = some (.inr ()) := by
  intro n
  induction n with
  | zero =>
    intro i k hi hk
    obtain ⟨g, rfl⟩ : ∃ g, k = g + 1 := ⟨k - 1, by omega⟩
    rw [M.ref02_Same_l1, if_neg (show ¬ ltI (i : Int) (l.length : Int) = true from fun h => by have := ltT h; omega)]
  | succ n ih =>
    intro i k hi hk
    obtain ⟨g, rfl⟩ : ∃ g, k = g + 1 := ⟨k - 1, by omega⟩
    have hx : l[i]? = some l[i] := List.getElem?_eq_getElem (by omega)
    generalize l[i] = t at hx
    have r1 : ∀ z : Int, eqI z z = true := fun z => decide_eq_true rfl
    have r2 : eqS t.Text t.Text = true := decide_eq_true rfl
    rw [M.ref02_Same_l1, if_pos (show ltI (i : Int) (l.length : Int) = true from decide_eq_true (by omega)), hx]
    simp only [obind, r1, r2, Bool.not_true, Bool.false_eq_true, if_false, if_true, Bool.and_self]
    exact ih (i + 1) g (by omega) (by omega)
theorem Same_M (l : List Api.Token) {fuel : Nat} (hf : l.length + 1 ≤ fuel) : M.ref02_Same fuel l l true = some true := by
  rw [M.ref02_Same, show eqI (l.length : Int) (l.length : Int) = true from decide_eq_true rfl, Same_loop l l.length 0 fuel (by omega) hf]
  rfl
theorem LexerTokens_true (s : List UInt8) (_ : s.length ≤ 140737488351232) : ∃ fuel, M.law02_LexerTokens fuel s = some true := by
  refine ⟨s.length + 200, ?_⟩
  rw [M.law02_LexerTokens, awake_M (by omega)]
  simp only [obind, Bool.not_true, Bool.false_eq_true, if_false, M.law02_long]
  have fin : ∀ r : List Api.Token × Api.Pos × Int, r.1.length + 1 ≤ s.length + 200 → M.lexer_Tokens (s.length + 200) s = some r → M.ref02_Tokens (s.length + 200) s = some r →
      ((M.lexer_Tokens (s.length + 200) s).bind fun v10 => (M.ref02_Tokens (s.length + 200) s).bind fun v12 => ((M.ref02_Same (s.length + 200) v10.1 v12.1 true).bind fun v14 => if v14 then if (eqI v10.2.1.Line v12.2.1.Line) && (eqI v10.2.1.Column v12.2.1.Column) then some (eqI v10.2.2 v12.2.2) else some false else some false : Option Bool).bind fun b18 => some b18) = some true := fun r h0 h1 h2 => by
    have r1 : ∀ z : Int, eqI z z = true := fun z => decide_eq_true rfl
    rw [h1, h2]
    simp only [obind]
    rw [Same_M r.1 h0]
    simp only [obind, if_true, r1, Bool.and_self]
  have goal : s.length ≤ 1500 ∨ (16384 < s.length ∧ s.length ≤ 20000) →
      ((M.lexer_Tokens (s.length + 200) s).bind fun v10 => (M.ref02_Tokens (s.length + 200) s).bind fun v12 => ((M.ref02_Same (s.length + 200) v10.1 v12.1 true).bind fun v14 => if v14 then if (eqI v10.2.1.Line v12.2.1.Line) && (eqI v10.2.1.Column v12.2.1.Column) then some (eqI v10.2.2 v12.2.2) else some false else some false : Option Bool).bind fun b18 => some b18) = some true := fun h => by
    rcases h with h | h
    · obtain ⟨r, r1, r2, r3⟩ := Tokens_both s (by omega) (fuel := s.length + 200) (by omega) s.length 0 (s.length + 200) (s.length + 200) [] (by omega) (by omega) (by omega) (by omega) (by simp)
      refine fin r (by simp at r3; omega) ?_ ?_
      · rw [M.lexer_Tokens, if_neg (show ¬ ltI 16384 (s.length : Int) = true from fun h' => by have := ltT h'; omega)]; exact r1
      · rw [M.ref02_Tokens, if_neg (show ¬ ltI 16384 (s.length : Int) = true from fun h' => by have := ltT h'; omega)]; exact r2
    · have hb : ltI 16384 (s.length : Int) = true := decide_eq_true (by omega)
      refine fin ([], Api.Pos.mk 0 0, 5) (by simp) ?_ ?_
      · rw [M.lexer_Tokens, if_pos hb]
      · rw [M.ref02_Tokens, if_pos hb]
  by_cases h1 : 1500 < s.length
  · have a1 : ltI 1500 (s.length : Int) = true := decide_eq_true (by omega)
    rw [a1]
    simp only [if_true]
    cases hb : (leI (s.length : Int) 16384) || (ltI 20000 (s.length : Int))
    · obtain ⟨b1, b2⟩ := orF hb
      have c1 := leF b1; have c2 := ltF b2
      simp only [Bool.false_eq_true, if_false]
      exact goal (.inr ⟨by omega, by omega⟩)
    · rfl
  · have a1 : ltI 1500 (s.length : Int) = false := decide_eq_false (by omega)
    have a2 : ltI 20000 (s.length : Int) = false := decide_eq_false (by omega)
    rw [a1, a2]
    simp only [Bool.false_eq_true, if_false]
    exact goal (.inl (by omega))
end Go.Proofs.YthbjlmoaceaeeaaDoor
set_option linter.unusedVariables false
set_option linter.unusedSimpArgs false
namespace Go.Proofs.YthbjlmoaceaeeaaDoor
open Go Go.Abs
def lt : List UInt8 → Option (List UInt8 × List UInt8)
  | [] => none
  | c :: s =>
    if c = 34 then some ([], s)
    else if c = 92 then
      match s with
      | [] => none
      | d :: s' => if d = 34 ∨ d = 92 ∨ d = 110 then (lt s').map (fun q => ((if d = 110 then 10 else d) :: q.1, q.2)) else none
    else if 32 ≤ c.toNat ∧ c.toNat ≤ 126 then (lt s).map (fun q => (c :: q.1, q.2)) else none
theorem lt_cons (c : UInt8) (s : List UInt8) : lt (c :: s) = if c = 34 then some ([], s)
    else if c = 92 then
      match s with
      | [] => none
      | d :: s' => if d = 34 ∨ d = 92 ∨ d = 110 then (lt s').map (fun q => ((if d = 110 then 10 else d) :: q.1, q.2)) else none
    else if 32 ≤ c.toNat ∧ c.toNat ≤ 126 then (lt s).map (fun q => (c :: q.1, q.2)) else none := by rw [lt.eq_def]
theorem lt_qs (r : List UInt8) : ∀ m : List UInt8, m.all okc = true → lt (qs m ++ 34 :: r) = some (m, r)
  | [], _ => by show lt (34 :: r) = _; rw [lt_cons, if_pos rfl]
  | c :: m, h => by
    rw [List.all_cons, Bool.and_eq_true] at h
    have ih := lt_qs r m h.2
    rw [qs_cons, List.append_assoc]
    by_cases c10 : c = 10
    · subst c10
      have he : esc 10 = [92, 110] := rfl
      rw [he]
      show lt (92 :: 110 :: (qs m ++ 34 :: r)) = _
      rw [lt_cons]
      simp [ih]
    · by_cases c2 : c = 34 ∨ c = 92
      · have he : esc c = [92, c] := by unfold esc; rw [if_neg c10, if_pos c2]
        rw [he]
        show lt (92 :: c :: (qs m ++ 34 :: r)) = _
        rw [lt_cons]
        have n110 : ¬ c = 110 := by rcases c2 with rfl | rfl <;> decide
        rcases c2 with c2 | c2 <;> simp [ih, c2]
      · have he : esc c = [c] := by unfold esc; rw [if_neg c10, if_neg c2]
        rw [he]
        show lt (c :: (qs m ++ 34 :: r)) = _
        rw [lt_cons]
        have hv : 32 ≤ c.toNat ∧ c.toNat ≤ 126 := by
          have := h.1
          unfold okc at this
          simpa [c10] using this
        rw [if_neg (fun e => c2 (.inl e)), if_neg (fun e => c2 (.inr e)), if_pos hv, ih]
        rfl
theorem lt_sound : ∀ (n : Nat) (s m r : List UInt8), s.length ≤ n → lt s = some (m, r) → m.all okc = true ∧ s = qs m ++ 34 :: r := by
  intro n
  induction n with
  | zero =>
    intro s m r hs h
    have : s = [] := List.length_eq_zero_iff.1 (by omega)
    subst this
    cases h
  | succ n ih =>
    intro s m r hs h
    match s, hs, h with
    | [], hs, h => cases h
    | c :: s, hs, h =>
      rw [lt_cons] at h
      simp only [List.length_cons] at hs
      by_cases c34 : c = 34
      · subst c34
        rw [if_pos rfl] at h
        cases h
        exact ⟨rfl, rfl⟩
      rw [if_neg c34] at h
      by_cases c92 : c = 92
      · subst c92
        rw [if_pos rfl] at h
        match s, hs, h with
        | [], hs, h => cases h
        | d :: s', hs, h =>
          simp only [List.length_cons] at hs
          by_cases hd : d = 34 ∨ d = 92 ∨ d = 110
          · simp only [hd, if_true] at h
            cases hl : lt s' with
            | none => rw [hl] at h; cases h
            | some q =>
              obtain ⟨m', r'⟩ := q
              rw [hl] at h
              simp only [Option.map_some, Option.some.injEq, Prod.mk.injEq] at h
              obtain ⟨rfl, rfl⟩ := h
              obtain ⟨a1, a2⟩ := ih s' m' r' (by omega) hl
              rw [a2]
              rcases hd with rfl | rfl | rfl
              · exact ⟨by rw [List.all_cons, a1]; rfl, by rw [qs_cons]; rfl⟩
              · exact ⟨by rw [List.all_cons, a1]; rfl, by rw [qs_cons]; rfl⟩
              · exact ⟨by rw [List.all_cons, a1]; rfl, by rw [qs_cons]; rfl⟩
          · simp only [hd, if_false] at h; cases h
      · rw [if_neg c92] at h
        by_cases hv : 32 ≤ c.toNat ∧ c.toNat ≤ 126
        · rw [if_pos hv] at h
          cases hl : lt s with
          | none => rw [hl] at h; cases h
          | some q =>
            obtain ⟨m', r'⟩ := q
            rw [hl] at h
            simp only [Option.map_some, Option.some.injEq, Prod.mk.injEq] at h
            obtain ⟨rfl, rfl⟩ := h
            obtain ⟨a1, a2⟩ := ih s m' r' (by omega) hl
            have c10 : ¬ c = 10 := fun e => by subst e; revert hv; decide
            have he : esc c = [c] := by unfold esc; rw [if_neg c10, if_neg (by simp [c34, c92])]
            exact ⟨by rw [List.all_cons, a1, okc]; simp [hv], by rw [qs_cons, he, a2]; rfl⟩
        · rw [if_neg hv] at h; cases h
def cmt : Nat → List UInt8 → Option (List UInt8)
  | _, [] => none
  | _, [_] => none
  | d, x :: y :: r => if x = 40 ∧ y = 42 then cmt (d + 1) r else if x = 42 ∧ y = 41 then (if d ≤ 1 then some r else cmt (d - 1) r) else cmt d (y :: r)
theorem cmt_len : ∀ (n d : Nat) (s r : List UInt8), s.length ≤ n → cmt d s = some r → r.length + 2 ≤ s.length := by
  intro n
  induction n using Nat.strongRecOn with
  | _ n ih =>
  intro d s r hs h
  match s, hs, h with
  | [], hs, h => simp [cmt] at h
  | [x], hs, h => simp [cmt] at h
  | x :: y :: t, hs, h =>
    rw [cmt] at h
    simp only [List.length_cons] at hs ⊢
    split at h
    · have := ih (n - 2) (by omega) _ t r (by omega) h; omega
    · split at h
      · split at h
        · cases h; omega
        · have := ih (n - 2) (by omega) _ t r (by omega) h; omega
      · have := ih (n - 1) (by omega) _ (y :: t) r (by simp; omega) h
        simp only [List.length_cons] at this; omega
def skp (s : List UInt8) : Option (List UInt8) :=
  match s with
  | [] => some []
  | c :: r => if blank c = true then skp r else if pre (c :: r) [40, 42] = true then
      match h : cmt 1 (r.drop 1) with
      | none => none
      | some r' => skp r'
    else some (c :: r)
termination_by s.length
decreasing_by
  · simp
  · have := cmt_len _ _ _ _ (Nat.le_refl _) h
    simp at this ⊢; omega
theorem skp_nil : skp [] = some [] := by rw [skp]
theorem skp_blank {c : UInt8} {r : List UInt8} (h : blank c = true) : skp (c :: r) = skp r := by rw [skp, if_pos h]
theorem skp_cmt (r : List UInt8) : skp (40 :: 42 :: r) = (cmt 1 r).bind skp := by
  rw [skp, if_neg (by decide), if_pos (by rw [pre2]; exact ⟨r, rfl⟩)]
  split <;> rename_i h <;> rw [show cmt 1 r = _ from h] <;> rfl
theorem skp_else {c : UInt8} {r : List UInt8} (h : blank c = false) (h2 : pre (c :: r) [40, 42] = false) : skp (c :: r) = some (c :: r) := by rw [skp, if_neg (by simp [h]), if_neg (by simp [h2])]
def wd (s : List UInt8) : Bool := WORDS.any (fun w => eqS s w)
def sy : List UInt8 → List UInt8
  | [] => []
  | c :: r => if pre (c :: r) [40, 42] = true then [] else match SA.find? (pre (c :: r)) with
    | some x => x
    | none => if 0 ≤ Lib.indexByte SB c then [c] else []
def numE (x : List UInt8) : Option Int := M.lexer_number (x.length + 1) x
theorem number_l1_fuel (s : List UInt8) : ∀ (n i k k' : Nat) (m : Int), i + n = s.length → n + 1 ≤ k → n + 1 ≤ k' → M.lexer_number_l1 s k m i = M.lexer_number_l1 s k' m i := by
  intro n
  induction n with
  | zero =>
    intro i k k' m hi hk hk'
    obtain ⟨g, rfl⟩ : ∃ g, k = g + 1 := ⟨k - 1, by omega⟩
    obtain ⟨g', rfl⟩ : ∃ g, k' = g + 1 := ⟨k' - 1, by omega⟩
    rw [M.lexer_number_l1, M.lexer_number_l1, if_neg (show ¬ ltI (i : Int) (s.length : Int) = true from fun h => by have := ltT h; omega), if_neg (show ¬ ltI (i : Int) (s.length : Int) = true from fun h => by have := ltT h; omega)]
  | succ n ih =>
    intro i k k' m hi hk hk'
    obtain ⟨g, rfl⟩ : ∃ g, k = g + 1 := ⟨k - 1, by omega⟩
    obtain ⟨g', rfl⟩ : ∃ g, k' = g + 1 := ⟨k' - 1, by omega⟩
    rw [M.lexer_number_l1, M.lexer_number_l1]
    have e : ∀ z, M.lexer_number_l1 s g z (i + 1) = M.lexer_number_l1 s g' z (i + 1) := fun z => ih (i + 1) g g' z (by omega) (by omega) (by omega)
    simp only [e]
theorem number_fuel {x : List UInt8} {fuel : Nat} (h : x.length + 1 ≤ fuel) : M.lexer_number fuel x = numE x := by
  unfold numE
  rw [M.lexer_number, M.lexer_number, number_l1_fuel x x.length 0 fuel (x.length + 1) 0 (by omega) h (Nat.le_refl _)]
def tk : List UInt8 → Option (Int × List UInt8 × List UInt8)
  | [] => none
  | c :: r =>
    if (smB c || caB c) = true then
      if 24 < cw inB (c :: r) 0 then none
      else some (if wd ((c :: r).take (cw inB (c :: r) 0)) = true then 6 else if smB c = true then 1 else 2, (c :: r).take (cw inB (c :: r) 0), (c :: r).drop (cw inB (c :: r) 0))
    else if c = 39 then
      match r with
      | [] => none
      | d :: r' => if smB d = true then
          if 24 < cw inB (d :: r') 0 + 1 then none else some (3, (c :: d :: r').take (cw inB (d :: r') 0 + 1), (c :: d :: r').drop (cw inB (d :: r') 0 + 1))
        else none
    else if diB c = true then
      if numE ((c :: r).take (cw diB (c :: r) 0)) = some 0 then some (4, (c :: r).take (cw diB (c :: r) 0), (c :: r).drop (cw diB (c :: r) 0)) else none
    else if c = 34 then (lt r).map fun q => (5, q.1, q.2)
    else if sy (c :: r) = [] then none else some (7, sy (c :: r), (c :: r).drop (sy (c :: r)).length)
theorem Symbol_sy (c : UInt8) (r : List UInt8) {fuel : Nat} (hf : 40 ≤ fuel) : M.lexer_Symbol fuel (c :: r) = some (sy (c :: r), decide (sy (c :: r) ≠ [])) ∧ (sy (c :: r)).length ≤ (c :: r).length ∧ (c :: r).take (sy (c :: r)).length = sy (c :: r) := by
  rw [M.lexer_Symbol, has_M, sy]
  simp only [obind]
  cases h0 : pre (c :: r) [40, 42]
  case true => exact ⟨rfl, by simp, rfl⟩
  simp only [Bool.false_eq_true, if_false]
  have hA := Sym_loop (c :: r) SA 4 0 fuel rfl (by omega)
  rw [List.drop_zero] at hA
  change ((M.lexer_Symbol_l1 (c :: r) SA fuel 0).bind _) = _ ∧ _
  rw [hA]
  cases hfa : SA.find? (pre (c :: r)) with
  | some x =>
    have hx := List.find?_some hfa
    have hm := List.mem_of_find?_eq_some hfa
    have hne : x ≠ [] := by
      have : ∀ x ∈ SA, x ≠ [] := by decide
      exact this x hm
    have hxe : (c :: r).take x.length = x := of_decide_eq_true hx
    refine ⟨by simp [hne], ?_, hxe⟩
    have := congrArg List.length hxe
    simp at this ⊢
    omega
  | none =>
    have hns : eqS (c :: r) [] = false := decide_eq_false (by simp)
    simp only [obind, Sum.elim_inr, hns, Bool.not_false, if_true, List.getElem?_cons_zero]
    have hI : M.strings_IndexByte [40, 41, 44, 59, 58, 61, 124, 95, 46, 42, 43, 45, 60, 94, 126] c = some (Lib.indexByte SB c) := rfl
    rw [hI]
    simp only [obind]
    by_cases h : 0 ≤ Lib.indexByte SB c
    · rw [if_pos h, show leI 0 (Lib.indexByte SB c) = true from decide_eq_true h]
      have := subT (c :: r) 1 (by simp)
      simp only [if_true]
      rw [show subC (c :: r) 0 1 = _ from this]
      exact ⟨by simp, by simp, rfl⟩
    · rw [if_neg h, show leI 0 (Lib.indexByte SB c) = false from decide_eq_false h]
      exact ⟨by simp, by simp, rfl⟩
def TKS (s : List UInt8) (a : Nat) (L : Api.Token × Int × Int × Lexer.scanner) : Prop :=
  (L.2.2.1 = 0 ∧ ∃ N : Nat, 1 ≤ N ∧ a + N ≤ s.length ∧ tk (s.drop a) = some (L.1.Kind, L.1.Text, s.drop (a + N)) ∧ L.2.2.2 = Lexer.scanner.mk s ((a + N : Nat) : Int)) ∨
  (L.2.2.1 ≠ 0 ∧ tk (s.drop a) = none ∧ ∃ P : Nat, a + P ≤ s.length ∧ L.2.1 = ((a + P : Nat) : Int))
theorem token_spec (s : List UInt8) (hs : s.length ≤ 100000) (a : Nat) (ha : a < s.length) {fuel : Nat} (hf : s.length + 100 ≤ fuel) :
    ∃ L, M.lexer_scanner_token fuel (Lexer.scanner.mk s (a : Int)) = some L ∧ TKS s a L := by
  have n3 : (3 : Int) ≠ 0 := by decide
  have n5 : (5 : Int) ≠ 0 := by decide
  have hlen : (s.drop a).length = s.length - a := by simp
  have hdrop : ∀ N, s.drop (a + N) = (s.drop a).drop N := fun N => by rw [List.drop_drop]
  unfold TKS
  simp only [hdrop]
  rw [M.lexer_scanner_token]
  dsimp only
  rw [subD s a (by omega)]
  simp only [obind]
  have hTb : (s.drop a).length ≤ 100000 := by omega
  have hTf : (s.drop a).length + 1 ≤ fuel := by omega
  have hTp : 1 ≤ (s.drop a).length := by omega
  generalize s.drop a = T at hlen hTb hTf hTp
  match T, hlen, hTb, hTf, hTp with
  | c :: r, hlen, hTb, hTf, _ =>
  have b13 : (if smB c = true then some true else some (caB c)) = some (smB c || caB c) := by cases smB c <;> rfl
  simp only [List.getElem?_cons_zero, obind, small_M, capital_M, digit_M, b13]
  rw [tk.eq_def]
  dsimp only
  cases hsc : (smB c || caB c)
  case true =>
    have hp := cw_pos (r := r) (sm_in hsc)
    have hle := (cw_le inB (c :: r) 0 (by simp)).2
    rw [inner_len hTb hTf]
    simp only [if_true, obind]
    generalize hN : cw inB (c :: r) 0 = N at hp hle
    rw [subT (c :: r) N hle]
    simp only [obind, Keyword_M]
    have tl : ((c :: r).take N).length = N := by rw [List.length_take]; omega
    cases hw : WORDS.any (fun w => eqS ((c :: r).take N) w)
    · have hwd : wd ((c :: r).take N) = false := hw
      by_cases h24 : 24 < N
      · have h24' : ltI 24 (N : Int) = true := decide_eq_true (by omega)
        rw [t2_M 0 5 s a 0 rfl (by omega)]
        simp only [Bool.false_eq_true, if_false, h24', if_true, obind, h24]
        exact ⟨_, rfl, .inr ⟨n5, by first | rfl | trivial, 0, by omega, rfl⟩⟩
      · have h24' : ltI 24 (N : Int) = false := decide_eq_false (by omega)
        rw [t1_M 1 (N : Int) _ s a N rfl (by omega), t1_M 2 (N : Int) _ s a N rfl (by omega)]
        simp only [Bool.false_eq_true, if_false, h24', obind, h24, hwd]
        cases smB c
        · exact ⟨_, rfl, .inl ⟨rfl, N, hp, by omega, by first | rfl | trivial, rfl⟩⟩
        · exact ⟨_, rfl, .inl ⟨rfl, N, hp, by omega, by first | rfl | trivial, rfl⟩⟩
    · have hwd : wd ((c :: r).take N) = true := hw
      have hsh := words_short hw
      rw [tl] at hsh
      have h24 : ¬ 24 < N := by omega
      rw [t1_M 6 (N : Int) _ s a N rfl (by omega)]
      simp only [if_true, Bool.false_eq_true, if_false, obind, h24, hwd]
      exact ⟨_, rfl, .inl ⟨rfl, N, hp, by omega, by first | rfl | trivial, rfl⟩⟩
  simp only [Bool.false_eq_true, if_false, e39]
  by_cases c39 : c = 39
  · rw [decide_eq_true c39]
    simp only [if_true]
    rw [if_pos c39]
    have hsub : subC (c :: r) 1 ((c :: r).length : Int) = some r := by have := subD (c :: r) 1 (by simp); simpa using this
    rw [hsub]
    simp only [obind]
    simp only [List.length_cons] at hlen hTb hTf
    match r, hlen, hTb, hTf with
    | [], hlen, hTb, hTf =>
      have h2 : ltI (([c] : List UInt8).length : Int) 2 = true := decide_eq_true (by simp)
      rw [t2_M 0 3 s a 0 rfl (by omega)]
      simp only [h2, if_true, obind]
      exact ⟨_, rfl, .inr ⟨n3, by first | rfl | trivial, 0, by omega, rfl⟩⟩
    | d :: r', hlen, hTb, hTf =>
      simp only [List.length_cons] at hlen hTb hTf
      have h2 : ltI ((c :: d :: r' : List UInt8).length : Int) 2 = false := decide_eq_false (by simp; omega)
      simp only [h2, Bool.false_eq_true, if_false, List.getElem?_cons_succ, List.getElem?_cons_zero, obind, small_M]
      cases hd : smB d
      · rw [t2_M 0 3 s a 0 rfl (by omega)]
        simp only [Bool.not_false, if_true, obind, Bool.false_eq_true, if_false]
        exact ⟨_, rfl, .inr ⟨n3, by first | rfl | trivial, 0, by omega, rfl⟩⟩
      · have hin : inB d = true := by unfold inB; rw [hd]; rfl
        have hp := cw_pos (r := r') hin
        have hle := (cw_le inB (d :: r') 0 (by simp)).2
        simp only [if_true, Bool.false_eq_true, if_false, Bool.not_true, obind]
        rw [inner_len (by simp; omega) (by simp; omega)]
        simp only [obind]
        generalize cw inB (d :: r') 0 = N at hp hle
        simp only [List.length_cons] at hle
        have k1 : chk .i64 (1 + (N : Int)) = some ((N + 1 : Nat) : Int) := by rw [chk64 (by omega) (by omega)]; congr 1; omega
        rw [k1]
        simp only [obind]
        by_cases h24 : 24 < N + 1
        · have h24' : ltI 24 ((N + 1 : Nat) : Int) = true := decide_eq_true (by omega)
          rw [t2_M 0 5 s a 0 rfl (by omega)]
          simp only [h24', if_true, obind, h24]
          exact ⟨_, rfl, .inr ⟨n5, by first | rfl | trivial, 0, by omega, rfl⟩⟩
        · have h24' : ltI 24 ((N + 1 : Nat) : Int) = false := decide_eq_false (by omega)
          rw [subT (c :: d :: r') (N + 1) (by simp; omega)]
          simp only [h24', Bool.false_eq_true, if_false, obind, h24]
          rw [t1_M 3 ((N + 1 : Nat) : Int) _ s a (N + 1) rfl (by omega)]
          exact ⟨_, rfl, .inl ⟨rfl, N + 1, by omega, by omega, by first | rfl | trivial, rfl⟩⟩
  rw [decide_eq_false c39]
  simp only [Bool.false_eq_true, if_false]
  rw [if_neg c39]
  cases hdi : diB c
  case true =>
    have hp := cw_pos (r := r) hdi
    have hle := (cw_le diB (c :: r) 0 (by simp)).2
    rw [digit_len hTb hTf]
    have hall := take_all diB (c :: r)
    simp only [if_true, obind]
    generalize cw diB (c :: r) 0 = N at hp hle hall
    rw [subT (c :: r) N hle]
    simp only [obind]
    obtain ⟨e, he⟩ := number_total ((c :: r).take N) (fuel := fuel) hall (by rw [List.length_take]; omega)
    have hE := he
    rw [number_fuel (by rw [List.length_take]; omega)] at hE
    rw [he]
    simp only [obind]
    by_cases e0 : e = 0
    · have h0 : eqI e 0 = true := decide_eq_true e0
      rw [h0, t1_M 4 (N : Int) _ s a N rfl (by omega), if_pos (show numE ((c :: r).take N) = some 0 by rw [hE, e0])]
      exact ⟨_, rfl, .inl ⟨rfl, N, hp, by omega, by first | rfl | trivial, rfl⟩⟩
    · have h0 : eqI e 0 = false := decide_eq_false e0
      rw [h0, t2_M 0 e s a 0 rfl (by omega), if_neg (show ¬ numE ((c :: r).take N) = some 0 from fun h => e0 (by rw [hE] at h; exact Option.some.inj h))]
      exact ⟨_, rfl, .inr ⟨e0, by first | rfl | trivial, 0, by omega, rfl⟩⟩
  simp only [Bool.false_eq_true, if_false, e34]
  by_cases c34 : c = 34
  · subst c34
    simp only [decide_true, if_true, obind]
    obtain ⟨x, N, p, e, l1, l2, l3, P, hP, hPl⟩ := literal_both (34 :: r) (fuel := fuel) hTb (by simp) hTf
    obtain ⟨v, v1, v2⟩ := literal_total (34 :: r) (fuel := fuel) hTb hTf
    rw [l1] at v1
    cases v1
    rw [l1]
    simp only [obind]
    by_cases e0 : e = 0
    · obtain ⟨m, rest, m1, m2, m3, m4⟩ := v2 e0
      simp only at m1 m4
      subst m1
      have m3' : r = qs x ++ 34 :: rest := by simpa using m3
      have hlr := congrArg List.length m3'
      simp only [List.length_append, List.length_cons] at hlr hlen
      have h0 : eqI e 0 = true := decide_eq_true e0
      clear l3 v2
      rw [h0, t1_M 5 N x s a (1 + (qs x).length + 1) m4 (by omega)]
      have hlt : lt r = some (x, rest) := by rw [m3']; exact lt_qs rest x m2
      rw [hlt]
      refine ⟨_, rfl, .inl ⟨rfl, 1 + (qs x).length + 1, by omega, by omega, ?_, rfl⟩⟩
      have hdr : (34 :: r).drop (1 + (qs x).length + 1) = rest := by
        rw [show 1 + (qs x).length + 1 = ((qs x).length + 1) + 1 by omega, List.drop_succ_cons, m3', List.drop_append]
        simp
      rw [hdr]
      rfl
    · have h0 : eqI e 0 = false := decide_eq_false e0
      have hb : a + P ≤ 1000000 := by clear l3 v2; omega
      have hb2 : a + P ≤ s.length := by clear l3 v2; omega
      rw [h0, t2_M p e s a P hP hb]
      refine ⟨_, rfl, .inr ⟨e0, ?_, P, hb2, rfl⟩⟩
      cases hl : lt r with
      | none => rfl
      | some q =>
        obtain ⟨m, rest⟩ := q
        obtain ⟨a1, a2⟩ := lt_sound _ r m rest (Nat.le_refl _) hl
        have hlr := congrArg List.length a2
        have hge := qs_ge m
        simp only [List.length_append, List.length_cons] at hlr hlen hTb hTf
        have := lit_complete (34 :: r) m a1 1 fuel [] rest (by simpa using a2) (by clear l3 v2; omega) (by simp; clear l3 v2; omega)
        rw [M.lexer_literal, this] at l1
        simp only [obind, Sum.elim_inl, Option.some.injEq, Prod.mk.injEq] at l1
        exact (e0 l1.2.2.2.symm).elim
  rw [decide_eq_false c34, if_neg c34]
  obtain ⟨y1, y2, y3⟩ := Symbol_sy c r (fuel := fuel) (by omega)
  rw [y1]
  generalize sy (c :: r) = y at y2 y3
  simp only [Bool.false_eq_true, if_false, obind]
  by_cases hy : y = []
  · subst hy
    have h1 : decide (([] : List UInt8) ≠ []) = false := by simp
    rw [h1, t2_M 0 3 s a 0 rfl (by omega)]
    exact ⟨_, rfl, .inr ⟨n3, by first | rfl | trivial, 0, by omega, rfl⟩⟩
  · have h1 : decide (y ≠ []) = true := decide_eq_true hy
    have hyl : 1 ≤ y.length := by
      cases y with
      | nil => exact (hy rfl).elim
      | cons z y => simp
    rw [h1, t1_M 7 (y.length : Int) y s a y.length rfl (by omega), if_neg hy]
    exact ⟨_, rfl, .inl ⟨rfl, y.length, hyl, by omega, by first | rfl | trivial, rfl⟩⟩
end Go.Proofs.YthbjlmoaceaeeaaDoor
set_option linter.unusedVariables false
set_option linter.unusedSimpArgs false
namespace Go.Proofs.YthbjlmoaceaeeaaDoor
open Go Go.Abs
theorem comment_spec (s : List UInt8) (hs : s.length ≤ 100000) (w : Lexer.scanner) (hw : w.s = s) (A : Int) : ∀ (n p k d : Nat) (X D : Int), X = p → D = d → s.length - p ≤ n → n + 2 ≤ k → 1 ≤ d → d ≤ p → p ≤ s.length →
    (M.lexer_scanner_skip_l2 w A k X D = some (.inl (A, Lexer.scanner.mk s s.length)) ∧ cmt d (s.drop p) = none) ∨
    (∃ q : Nat, M.lexer_scanner_skip_l2 w A k X D = some (.inr (q : Int)) ∧ cmt d (s.drop p) = some (s.drop q) ∧ p < q ∧ q ≤ s.length) := by
  intro n
  induction n using Nat.strongRecOn with
  | _ n ih =>
  intro p k d X D hX hD hn hk hd hdp hp
  obtain ⟨g, rfl⟩ : ∃ g, k = g + 1 := ⟨k - 1, by omega⟩
  subst hX; subst hD
  have k3 : chk .i64 ((d : Int) + 1) = some ((d : Int) + 1) := chk64 (by omega) (by omega)
  have k4 : chk .i64 ((d : Int) - 1) = some ((d : Int) - 1) := chk64 (by omega) (by omega)
  have k5 : chk .i64 ((p : Int) + 1) = some ((p : Int) + 1) := chk64 (by omega) (by omega)
  have k6 : chk .i64 ((p : Int) + 2) = some ((p : Int) + 2) := chk64 (by omega) (by omega)
  rw [M.lexer_scanner_skip_l2, hw]
  by_cases hend : s.length ≤ p
  · rw [if_pos (show leI (s.length : Int) (p : Int) = true from decide_eq_true (by omega)), List.drop_eq_nil_of_le hend]
    exact .inl ⟨by rw [show (p : Int) = (s.length : Int) by omega], by simp [cmt]⟩
  rw [if_neg (show ¬ leI (s.length : Int) (p : Int) = true from fun h => by have := leT h; omega), subD s p (by omega)]
  simp only [obind, has_M]
  have hd1 : s.drop (p + 1) = (s.drop p).drop 1 := by rw [List.drop_drop]
  have hd2 : s.drop (p + 2) = (s.drop p).drop 2 := by rw [List.drop_drop]
  have hTl : (s.drop p).length = s.length - p := by simp
  have go : ∀ (b d' : Nat), 1 ≤ b → b ≤ 2 → p + b ≤ s.length → 1 ≤ d' → d' ≤ p + b → ∀ (X' D' : Int), X' = ((p + b : Nat) : Int) → D' = d' →
      (M.lexer_scanner_skip_l2 w A g X' D' = some (.inl (A, Lexer.scanner.mk s s.length)) ∧ cmt d' (s.drop (p + b)) = none) ∨
      (∃ q : Nat, M.lexer_scanner_skip_l2 w A g X' D' = some (.inr (q : Int)) ∧ cmt d' (s.drop (p + b)) = some (s.drop q) ∧ p < q ∧ q ≤ s.length) := fun b d' hb1 hb2 hbl h1 h2 X' D' hX' hD' => by
    rcases ih (n - b) (by omega) (p + b) g d' X' D' hX' hD' (by omega) (by omega) h1 h2 hbl with h | ⟨q, m1, m2, m3, m4⟩
    · exact .inl h
    · exact .inr ⟨q, m1, m2, by omega, m4⟩
  generalize hT : s.drop p = T at hTl hd1 hd2
  match T, hTl, hd1, hd2 with
  | [], hTl, _, _ => simp at hTl; omega
  | [x], hTl, hd1, hd2 =>
    have h1 : pre [x] [40, 42] = false := decide_eq_false (by simp)
    have h2 : pre [x] [42, 41] = false := decide_eq_false (by simp)
    rw [h1]
    simp only [Bool.false_eq_true, if_false, h2]
    simp at hTl
    rw [k5]
    simp only [obind]
    rw [if_neg (show ¬ eqI (d : Int) 0 = true from fun h => by have := eqT h; omega)]
    obtain ⟨g2, hg2⟩ : ∃ g2, g = g2 + 1 := ⟨g - 1, by omega⟩
    rw [hg2, M.lexer_scanner_skip_l2, hw, if_pos (show leI (s.length : Int) _ = true from decide_eq_true (by omega))]
    exact .inl ⟨by rw [show ((p : Int) + 1) = (s.length : Int) by omega], by simp [cmt]⟩
  | x :: y :: r, hTl, hd1, hd2 =>
    simp only [List.length_cons] at hTl
    simp only [List.drop_succ_cons, List.drop_zero] at hd1 hd2
    have q40 : pre (x :: y :: r) [40, 42] = (decide (x = 40) && decide (y = 42)) := by unfold pre; simp [Bool.decide_and]
    have q42 : pre (x :: y :: r) [42, 41] = (decide (x = 42) && decide (y = 41)) := by unfold pre; simp [Bool.decide_and]
    simp only [q40, q42]
    rw [cmt]
    by_cases ho : x = 40 ∧ y = 42
    · rw [decide_eq_true ho.1, decide_eq_true ho.2, if_pos ho]
      simp only [Bool.and_self, if_true, obind, k3, k6]
      rw [if_neg (show ¬ eqI ((d : Int) + 1) 0 = true from fun h => by have := eqT h; omega)]
      have := go 2 (d + 1) (by omega) (by omega) (by omega) (by omega) (by omega) ((p : Int) + 2) ((d : Int) + 1) (by omega) (by omega)
      rw [hd2] at this
      exact this
    have hno : (decide (x = 40) && decide (y = 42)) = false := by
      cases h : (decide (x = 40) && decide (y = 42))
      · rfl
      · simp at h; exact (ho h).elim
    rw [hno, if_neg ho]
    simp only [obind, Bool.false_eq_true, if_false]
    by_cases hc : x = 42 ∧ y = 41
    · rw [decide_eq_true hc.1, decide_eq_true hc.2, if_pos hc]
      simp only [Bool.and_self, if_true, obind, k4, k6]
      by_cases hz : d = 1
      · have hz' : eqI ((d : Int) - 1) 0 = true := decide_eq_true (by omega)
        rw [hz', if_pos (show d ≤ 1 by omega)]
        simp only [if_true]
        exact .inr ⟨p + 2, by rw [show ((p : Int) + 2) = ((p + 2 : Nat) : Int) by omega], by rw [hd2], by omega, by omega⟩
      · have hz' : eqI ((d : Int) - 1) 0 = false := decide_eq_false (by omega)
        rw [hz', if_neg (show ¬ d ≤ 1 by omega)]
        simp only [Bool.false_eq_true, if_false]
        have := go 2 (d - 1) (by omega) (by omega) (by omega) (by omega) (by omega) ((p : Int) + 2) ((d : Int) - 1) (by omega) (by omega)
        rw [hd2] at this
        exact this
    · have hnc : (decide (x = 42) && decide (y = 41)) = false := by
        cases h : (decide (x = 42) && decide (y = 41))
        · rfl
        · simp at h; exact (hc h).elim
      rw [hnc, if_neg hc]
      simp only [obind, Bool.false_eq_true, if_false, k5]
      rw [if_neg (show ¬ eqI (d : Int) 0 = true from fun h => by have := eqT h; omega)]
      have := go 1 d (by omega) (by omega) (by omega) (by omega) (by omega) ((p : Int) + 1) (d : Int) (by omega) rfl
      rw [hd1] at this
      exact this
theorem skip_loop (s : List UInt8) (hs : s.length ≤ 100000) (w : Lexer.scanner) (hw : w.s = s) {fuel : Nat} (hf : s.length + 10 ≤ fuel) : ∀ (n i k : Nat) (I : Int), I = i → s.length - i ≤ n → n + 1 ≤ k → i ≤ s.length →
    ∃ v, (M.lexer_scanner_skip_l1 fuel w k I).bind (fun o => Sum.elim some (fun o3 => some ((-1 : Int), (Lexer.scanner.mk w.s o3))) o) = some v ∧
      ((∃ m : Nat, i ≤ m ∧ m ≤ s.length ∧ v = (-1, Lexer.scanner.mk s (m : Int)) ∧ skp (s.drop i) = some (s.drop m)) ∨ (∃ m : Nat, m ≤ s.length ∧ v.1 = (m : Int) ∧ skp (s.drop i) = none)) := by
  subst hw
  intro n
  induction n using Nat.strongRecOn with
  | _ n ih =>
  intro i k I hI hn hk hi
  obtain ⟨g, rfl⟩ : ∃ g, k = g + 1 := ⟨k - 1, by omega⟩
  subst hI
  rw [M.lexer_scanner_skip_l1]
  by_cases hend : w.s.length ≤ i
  · rw [if_neg (show ¬ ltI (i : Int) (w.s.length : Int) = true from fun h => by have := ltT h; omega)]
    refine ⟨_, rfl, .inl ⟨i, Nat.le_refl _, hi, rfl, ?_⟩⟩
    rw [List.drop_eq_nil_of_le hend, skp_nil]
  have hx : w.s[i]? = some w.s[i] := List.getElem?_eq_getElem (by omega)
  have hd : w.s.drop i = w.s[i] :: w.s.drop (i + 1) := List.drop_eq_getElem_cons (by omega)
  generalize w.s[i] = c at hx hd
  have k1 : chk .i64 ((i : Int) + 1) = some ((i : Int) + 1) := chk64 (by omega) (by omega)
  have k2 : chk .i64 ((i : Int) + 2) = some ((i : Int) + 2) := chk64 (by omega) (by omega)
  rw [if_pos (show ltI (i : Int) (w.s.length : Int) = true from decide_eq_true (by omega)), subD w.s i (by omega)]
  have h0 : (w.s.drop i)[0]? = some c := by rw [hd]; rfl
  simp only [obind, h0, blank_L, blank_I]
  cases hb : blank c
  case true =>
    simp only [if_true, k1, obind]
    rw [hd, skp_blank hb]
    obtain ⟨v, v1, v2⟩ := ih (n - 1) (by omega) (i + 1) g ((i : Int) + 1) (by omega) (by omega) (by omega) (by omega)
    refine ⟨v, v1, ?_⟩
    rcases v2 with ⟨m, m1, m2, m3, m4⟩ | ⟨m, m1, m2, m3⟩
    · exact .inl ⟨m, by omega, m2, m3, m4⟩
    · exact .inr ⟨m, m1, m2, m3⟩
  simp only [Bool.false_eq_true, if_false, has_M]
  cases hp : pre (w.s.drop i) [40, 42]
  · rw [hd] at hp ⊢
    exact ⟨_, rfl, .inl ⟨i, Nat.le_refl _, hi, rfl, by rw [skp_else hb hp, hd]⟩⟩
  simp only [if_true, obind]
  obtain ⟨r, hr⟩ := (pre2 _ _ _).1 hp
  have hrl := congrArg List.length hr
  simp only [List.length_drop, List.length_cons] at hrl
  have hr2 : w.s.drop (i + 2) = r := by rw [← List.drop_drop, hr]; rfl
  obtain ⟨f2, rfl⟩ : ∃ f2, fuel = f2 + 1 := ⟨fuel - 1, by omega⟩
  have first : M.lexer_scanner_skip_l2 w (i : Int) (f2 + 1) (i : Int) 0 = M.lexer_scanner_skip_l2 w (i : Int) f2 ((i : Int) + 2) 1 := by
    rw [M.lexer_scanner_skip_l2, if_neg (show ¬ leI (w.s.length : Int) (i : Int) = true from fun h => by have := leT h; omega), subD w.s i (by omega)]
    simp only [obind, has_M, hp, if_true]
    rw [show chk .i64 (0 + 1) = some 1 from rfl, k2]
    simp only [obind]
    rw [if_neg (show ¬ eqI 1 0 = true by decide)]
  rw [first, hr, skp_cmt]
  rcases comment_spec w.s hs w rfl (i : Int) (w.s.length - (i + 2)) (i + 2) f2 1 ((i : Int) + 2) 1 (by omega) rfl (Nat.le_refl _) (by omega) (Nat.le_refl _) (by omega) (by omega) with ⟨l1, l2⟩ | ⟨q, l1, l2, l3, l4⟩
  · rw [hr2] at l2
    rw [l1, l2]
    exact ⟨_, rfl, .inr ⟨i, hi, rfl, rfl⟩⟩
  · rw [hr2] at l2
    rw [l1, l2]
    simp only [obind, Sum.elim_inr]
    obtain ⟨v, v1, v2⟩ := ih (n - 1) (by omega) q g (q : Int) rfl (by omega) (by omega) (by omega)
    refine ⟨v, v1, ?_⟩
    rcases v2 with ⟨m, m1, m2, m3, m4⟩ | ⟨m, m1, m2, m3⟩
    · exact .inl ⟨m, by omega, m2, m3, m4⟩
    · exact .inr ⟨m, m1, m2, m3⟩
theorem skip_spec (s : List UInt8) (hs : s.length ≤ 100000) (a : Nat) (ha : a ≤ s.length) {fuel : Nat} (hf : s.length + 10 ≤ fuel) :
    ∃ v, M.lexer_scanner_skip fuel (Lexer.scanner.mk s (a : Int)) = some v ∧
      ((∃ m : Nat, a ≤ m ∧ m ≤ s.length ∧ v = (-1, Lexer.scanner.mk s (m : Int)) ∧ skp (s.drop a) = some (s.drop m)) ∨ (∃ m : Nat, m ≤ s.length ∧ v.1 = (m : Int) ∧ skp (s.drop a) = none)) := by
  rw [M.lexer_scanner_skip]
  exact skip_loop s hs (Lexer.scanner.mk s (a : Int)) rfl hf s.length a fuel (a : Int) rfl (by omega) (by omega) ha
inductive Toks : List UInt8 → List (Int × List UInt8 × List UInt8) → Prop where
  | done {s : List UInt8} (h : skp s = some []) : Toks s [(8, [], [])]
  | next {s s' r x : List UInt8} {k : Int} {l : List (Int × List UInt8 × List UInt8)} (h : skp s = some s') (h1 : s' ≠ []) (h2 : tk s' = some (k, x, r)) (h3 : Toks r l) : Toks s ((k, x, s') :: l)
theorem Toks.inj {s : List UInt8} {l l' : List (Int × List UInt8 × List UInt8)} (h : Toks s l) : Toks s l' → l = l' := by
  induction h generalizing l' with
  | done h =>
    intro h'
    cases h' with
    | done _ => rfl
    | next g g1 g2 g3 => rw [h] at g; cases g; exact (g1 rfl).elim
  | next h h1 h2 h3 ih =>
    intro h'
    cases h' with
    | done g => rw [h] at g; cases g; exact (h1 rfl).elim
    | next g g1 g2 g3 =>
      rw [h] at g; cases g
      rw [h2] at g2; cases g2
      rw [ih g3]
def tokOf (s : List UInt8) (q : Int × List UInt8 × List UInt8) : Api.Token := Api.Token.mk q.1 q.2.1 (PL s (s.length - q.2.2.length))
theorem tokens_loop (s : List UInt8) (hs : s.length ≤ 16384) {fuel : Nat} (hf : s.length + 100 ≤ fuel) : ∀ (n a k : Nat) (out : List Api.Token), s.length - a ≤ n → n + 1 ≤ k → a ≤ s.length → out.length ≤ a →
    ∃ r, M.lexer_Tokens_l1 fuel s k s (a : Int) out = some r ∧
      ((r.2.2 = 0 ∧ ∃ l, Toks (s.drop a) l ∧ r.1 = out ++ l.map (tokOf s)) ∨ (r.2.2 ≠ 0 ∧ r.1 = [] ∧ (∀ l, ¬ Toks (s.drop a) l) ∧ ∃ i, i ≤ s.length ∧ r.2.1 = PL s i)) := by
  intro n
  induction n using Nat.strongRecOn with
  | _ n ih =>
  intro a k out hn hk ha ho
  obtain ⟨g, rfl⟩ : ∃ g, k = g + 1 := ⟨k - 1, by omega⟩
  rw [M.lexer_Tokens_l1]
  have happ : ∀ t : Api.Token, app 40 out [t] = some (out ++ [t]) := fun t => app_some (by decide) (by simp; omega)
  obtain ⟨v, s1, hv⟩ := skip_spec s (by omega) a ha (fuel := fuel) (by omega)
  rw [s1]
  simp only [obind]
  rcases hv with ⟨m, m1, m2, rfl, m4⟩ | ⟨m, m1, m2, m3⟩
  · have hm1 : leI 0 (-1) = false := rfl
    simp only [hm1, Bool.false_eq_true, if_false]
    by_cases hend : s.length ≤ m
    · have h1 : leI (s.length : Int) (m : Int) = true := decide_eq_true (by omega)
      rw [h1, place_M s s.length (by omega) (by omega) (by omega)]
      simp only [if_true, obind, happ]
      refine ⟨_, rfl, .inl ⟨rfl, [(8, [], [])], .done ?_, ?_⟩⟩
      · rw [m4, List.drop_eq_nil_of_le hend]
      · simp [tokOf]
    have h1 : leI (s.length : Int) (m : Int) = false := decide_eq_false (by omega)
    rw [h1]
    simp only [Bool.false_eq_true, if_false]
    have h3 : eqI (out.length : Int) 20000 = false := decide_eq_false (by omega)
    rw [h3]
    simp only [Bool.false_eq_true, if_false]
    have hne : s.drop m ≠ [] := fun e => by have := congrArg List.length e; simp at this; omega
    obtain ⟨L, l1, ht⟩ := token_spec s (by omega) m (by omega) (fuel := fuel) (by omega)
    rw [l1]
    simp only [obind]
    rcases ht with ⟨t1, N, t5, t6, t7, t8⟩ | ⟨t1, t2, P, t4, t5⟩
    · have h4 : eqI L.2.2.1 0 = true := decide_eq_true t1
      rw [h4, t8, place_M s m (by omega) (by omega) (by omega)]
      simp only [Bool.not_true, Bool.false_eq_true, if_false, obind, happ]
      obtain ⟨r, r1, r2⟩ := ih (n - 1) (by omega) (m + N) g (out ++ [Api.Token.mk L.1.Kind L.1.Text (PL s m)]) (by omega) (by omega) (by omega) (by simp; omega)
      refine ⟨r, r1, ?_⟩
      rcases r2 with ⟨e0, l, q1, q2⟩ | ⟨e0, q0, q1, q2⟩
      · refine .inl ⟨e0, (L.1.Kind, L.1.Text, s.drop m) :: l, .next m4 hne t7 q1, ?_⟩
        rw [q2]
        have : s.length - (s.length - m) = m := by omega
        simp [tokOf, this]
      · refine .inr ⟨e0, q0, fun l hl => ?_, q2⟩
        cases hl with
        | done g => rw [m4] at g; exact hne (Option.some.inj g)
        | next g g1 g2 g3 =>
          rw [m4] at g; cases g
          rw [t7] at g2; cases g2
          exact q1 _ g3
    · have h4 : eqI L.2.2.1 0 = false := decide_eq_false t1
      rw [h4, t5]
      simp only [Bool.not_false, if_true, obind]
      rw [place_M s (m + P) (by omega) (by omega) (by omega)]
      refine ⟨_, rfl, .inr ⟨t1, rfl, fun l hl => ?_, m + P, t4, rfl⟩⟩
      cases hl with
      | done g => rw [m4] at g; exact hne (Option.some.inj g)
      | next g g1 g2 g3 =>
        rw [m4] at g; cases g
        rw [t2] at g2; cases g2
  · have hm1 : leI 0 v.1 = true := decide_eq_true (by omega)
    simp only [hm1, if_true]
    rw [m2, place_M s m (by omega) (by omega) (by omega)]
    refine ⟨_, rfl, .inr ⟨(show (4 : Int) ≠ 0 by decide), rfl, fun l hl => ?_, m, m1, rfl⟩⟩
    cases hl with
    | done g => rw [m3] at g; cases g
    | next g g1 g2 g3 => rw [m3] at g; cases g
theorem tokens_spec (s : List UInt8) (hs : s.length ≤ 16384) {fuel : Nat} (hf : s.length + 100 ≤ fuel) :
    ∃ r, M.lexer_Tokens fuel s = some r ∧ ((r.2.2 = 0 ∧ ∃ l, Toks s l ∧ r.1 = l.map (tokOf s)) ∨ (r.2.2 ≠ 0 ∧ r.1 = [] ∧ (∀ l, ¬ Toks s l) ∧ ∃ i, i ≤ s.length ∧ r.2.1 = PL s i)) := by
  rw [M.lexer_Tokens, if_neg (show ¬ ltI 16384 (s.length : Int) = true from fun h' => by have := ltT h'; omega)]
  have := tokens_loop s hs hf s.length 0 fuel [] (by omega) (by omega) (by omega) (by simp)
  rw [List.drop_zero] at this
  exact this
theorem tk_len {s x r : List UInt8} {k : Int} (hs : s.length ≤ 100000) (h : tk s = some (k, x, r)) : r.length + 1 ≤ s.length := by
  cases s with
  | nil => simp [tk] at h
  | cons c t =>
    obtain ⟨L, l1, l2⟩ := token_spec (c :: t) hs 0 (by simp) (fuel := (c :: t).length + 100) (Nat.le_refl _)
    rcases l2 with ⟨_, N, n1, n2, n3, _⟩ | ⟨_, n1, _⟩
    · rw [List.drop_zero, h] at n3
      simp only [Option.some.injEq, Prod.mk.injEq] at n3
      rw [n3.2.2, List.length_drop]
      omega
    · rw [List.drop_zero, h] at n1; cases n1
theorem skp_len {s s' : List UInt8} (hs : s.length ≤ 100000) (h : skp s = some s') : s'.length ≤ s.length := by
  obtain ⟨v, _, hv⟩ := skip_spec s hs 0 (by omega) (fuel := s.length + 10) (Nat.le_refl _)
  rcases hv with ⟨m, m1, m2, _, m4⟩ | ⟨m, m1, _, m3⟩
  · rw [List.drop_zero, h] at m4
    rw [Option.some.inj m4, List.length_drop]
    omega
  · rw [List.drop_zero, h] at m3; cases m3
theorem Toks.len {s : List UInt8} {l : List (Int × List UInt8 × List UInt8)} (hs : s.length ≤ 100000) (h : Toks s l) : l.length ≤ s.length + 1 := by
  induction h with
  | done h => simp
  | next h h1 h2 h3 ih =>
    have a1 := skp_len hs h
    have a2 := tk_len (by omega) h2
    have := ih (by omega)
    simp only [List.length_cons]
    omega
def bd : List UInt8 → Prop
  | [] => True
  | c :: _ => c = 32 ∨ c = 9 ∨ c = 10 ∨ c = 40
theorem bd_inB {u : List UInt8} (h : bd u) : ∀ c r, u = c :: r → inB c = false ∧ diB c = false := by
  rintro c r rfl
  rcases h with rfl | rfl | rfl | rfl <;> exact ⟨rfl, rfl⟩
theorem cw_ext (p : UInt8 → Bool) (s u : List UInt8) (h : ∀ c r, u = c :: r → p c = false) : cw p (s ++ u) 0 = cw p s 0 := by
  unfold cw
  simp only [List.drop_zero, Nat.zero_add]
  induction s with
  | nil =>
    cases u with
    | nil => rfl
    | cons c r => simp [h c r rfl]
  | cons c s ih =>
    rw [List.cons_append, List.takeWhile_cons, List.takeWhile_cons]
    split
    · simp [ih]
    · rfl
theorem cmt_ext (u : List UInt8) : ∀ (n d : Nat) (s r : List UInt8), s.length ≤ n → cmt d s = some r → cmt d (s ++ u) = some (r ++ u) := by
  intro n
  induction n using Nat.strongRecOn with
  | _ n ih =>
  intro d s r hs h
  match s, hs, h with
  | [], hs, h => simp [cmt] at h
  | [x], hs, h => simp [cmt] at h
  | x :: y :: t, hs, h =>
    rw [cmt] at h
    simp only [List.length_cons] at hs
    show cmt d (x :: y :: (t ++ u)) = _
    rw [cmt]
    by_cases h1 : x = 40 ∧ y = 42
    · rw [if_pos h1] at h ⊢
      exact ih (n - 2) (by omega) _ t r (by omega) h
    · rw [if_neg h1] at h ⊢
      by_cases h2 : x = 42 ∧ y = 41
      · rw [if_pos h2] at h ⊢
        by_cases h3 : d ≤ 1
        · rw [if_pos h3] at h ⊢
          cases h; rfl
        · rw [if_neg h3] at h ⊢
          exact ih (n - 2) (by omega) _ t r (by omega) h
      · rw [if_neg h2] at h ⊢
        exact ih (n - 1) (by omega) _ (y :: t) r (by simp; omega) h
theorem pre_ext (c : UInt8) (r u : List UInt8) (x y : UInt8) (h : bd u) (hy : ¬ (y = 32 ∨ y = 9 ∨ y = 10 ∨ y = 40)) : pre (c :: r ++ u) [x, y] = pre (c :: r) [x, y] := by
  cases r with
  | cons d r => unfold pre; simp
  | nil =>
    have h1 : pre [c] [x, y] = false := decide_eq_false (by simp)
    rw [h1]
    cases u with
    | nil => exact h1
    | cons e u =>
      refine decide_eq_false ?_
      simp
      rintro _ rfl
      exact hy h
theorem sy_ext (c : UInt8) (r u : List UInt8) (h : bd u) : sy (c :: r ++ u) = sy (c :: r) := by
  show sy (c :: (r ++ u)) = _
  rw [sy, sy]
  have e : pre (c :: (r ++ u)) [40, 42] = pre (c :: r) [40, 42] := pre_ext c r u 40 42 h (by decide)
  have e1 : pre (c :: (r ++ u)) [58, 62] = pre (c :: r) [58, 62] := pre_ext c r u 58 62 h (by decide)
  have e2 : pre (c :: (r ++ u)) [61, 62] = pre (c :: r) [61, 62] := pre_ext c r u 61 62 h (by decide)
  have e3 : pre (c :: (r ++ u)) [45, 62] = pre (c :: r) [45, 62] := pre_ext c r u 45 62 h (by decide)
  have e4 : pre (c :: (r ++ u)) [60, 61] = pre (c :: r) [60, 61] := pre_ext c r u 60 61 h (by decide)
  have e5 : SA.find? (pre (c :: (r ++ u))) = SA.find? (pre (c :: r)) := by
    simp only [SA, List.find?_cons, e1, e2, e3, e4, List.find?_nil]
  rw [e, e5]
theorem tk_ext {s : List UInt8} {k : Int} {x r : List UInt8} (u : List UInt8) (hu : bd u) (h : tk s = some (k, x, r)) : tk (s ++ u) = some (k, x, r ++ u) := by
  match s, h with
  | [], h => simp [tk] at h
  | c :: t, h =>
    have fin : ∀ (p : UInt8 → Bool), (∀ c r, u = c :: r → p c = false) → cw p (c :: (t ++ u)) 0 = cw p (c :: t) 0 := fun p hp => by
      have := cw_ext p (c :: t) u hp
      rwa [List.cons_append] at this
    have tkd : ∀ N, N ≤ (c :: t).length → (c :: (t ++ u)).take N = (c :: t).take N ∧ (c :: (t ++ u)).drop N = (c :: t).drop N ++ u := fun N hN => by
      rw [← List.cons_append]
      exact ⟨List.take_append_of_le_length hN, List.drop_append_of_le_length hN⟩
    rw [List.cons_append, tk.eq_def]
    rw [tk.eq_def] at h
    dsimp only at h ⊢
    by_cases h1 : (smB c || caB c) = true
    · rw [if_pos h1] at h ⊢
      have hle := (cw_le inB (c :: t) 0 (by simp)).2
      rw [fin inB (fun c r e => (bd_inB hu c r e).1), (tkd _ hle).1, (tkd _ hle).2]
      by_cases h2 : 24 < cw inB (c :: t) 0
      · rw [if_pos h2] at h; cases h
      · rw [if_neg h2] at h ⊢; cases h; rfl
    rw [if_neg h1] at h ⊢
    by_cases h2 : c = 39
    · rw [if_pos h2] at h ⊢
      match t, h, tkd with
      | [], h, _ => cases h
      | d :: t, h, tkd =>
        dsimp only [List.cons_append] at h tkd ⊢
        have fin2 : cw inB (d :: (t ++ u)) 0 = cw inB (d :: t) 0 := by
          have := cw_ext inB (d :: t) u (fun c r e => (bd_inB hu c r e).1)
          rwa [List.cons_append] at this
        rw [fin2]
        by_cases h3 : smB d = true
        · rw [if_pos h3] at h ⊢
          have hle := (cw_le inB (d :: t) 0 (by simp)).2
          have hle' : cw inB (d :: t) 0 + 1 ≤ (c :: d :: t).length := by simp at hle ⊢; omega
          rw [(tkd _ hle').1, (tkd _ hle').2]
          by_cases h4 : 24 < cw inB (d :: t) 0 + 1
          · rw [if_pos h4] at h; cases h
          · rw [if_neg h4] at h ⊢; cases h; rfl
        · rw [if_neg h3] at h; cases h
    rw [if_neg h2] at h ⊢
    by_cases h3 : diB c = true
    · rw [if_pos h3] at h ⊢
      have hle := (cw_le diB (c :: t) 0 (by simp)).2
      rw [fin diB (fun c r e => (bd_inB hu c r e).2), (tkd _ hle).1, (tkd _ hle).2]
      split at h
      · rename_i h4
        rw [if_pos h4]; cases h; rfl
      · cases h
    rw [if_neg h3] at h ⊢
    by_cases h4 : c = 34
    · rw [if_pos h4] at h ⊢
      cases hl : lt t with
      | none => rw [hl] at h; cases h
      | some q =>
        obtain ⟨m, rest⟩ := q
        rw [hl] at h
        cases h
        obtain ⟨a1, a2⟩ := lt_sound _ t _ _ (Nat.le_refl _) hl
        have : lt (t ++ u) = some (m, rest ++ u) := by
          rw [a2, List.append_assoc]
          exact lt_qs (rest ++ u) m a1
        rw [this]; rfl
    rw [if_neg h4] at h ⊢
    have hsy := sy_ext c t u hu
    rw [List.cons_append] at hsy
    rw [hsy]
    have hle := (Symbol_sy c t (fuel := 40) (Nat.le_refl _)).2.1
    rw [(tkd _ hle).2]
    split at h
    · cases h
    · rename_i h5; rw [if_neg h5]; cases h; rfl
theorem skp_ext (u : List UInt8) (hu : bd u) : ∀ (n : Nat) (s s' : List UInt8), s.length ≤ n → skp s = some s' → skp (s ++ u) = if s' = [] then skp u else some (s' ++ u) := by
  intro n
  induction n using Nat.strongRecOn with
  | _ n ih =>
  intro s s' hs h
  match s, hs, h with
  | [], hs, h => rw [skp_nil] at h; cases h; rfl
  | c :: t, hs, h =>
    simp only [List.length_cons] at hs
    cases hb : blank c
    case true =>
      rw [skp_blank hb] at h
      rw [List.cons_append, skp_blank hb]
      exact ih (n - 1) (by omega) t s' (by omega) h
    cases hp : pre (c :: t) [40, 42]
    case true =>
      obtain ⟨r, hr⟩ := (pre2 _ _ _).1 hp
      rw [hr] at h ⊢
      have hrl := congrArg List.length hr
      simp only [List.length_cons] at hrl
      rw [skp_cmt] at h
      rw [List.cons_append, List.cons_append, skp_cmt]
      cases hc : cmt 1 r with
      | none => rw [hc] at h; cases h
      | some r' =>
        rw [hc, obind] at h
        rw [cmt_ext u _ 1 r r' (Nat.le_refl _) hc, obind]
        have := cmt_len _ _ _ _ (Nat.le_refl _) hc
        exact ih (n - 1) (by omega) r' s' (by omega) h
    · rw [skp_else hb hp] at h
      cases h
      rw [if_neg (by simp)]
      have := pre_ext c t u 40 42 hu (by decide)
      rw [hp] at this
      rw [List.cons_append] at this ⊢
      exact skp_else hb this
theorem Toks.ext {s : List UInt8} {l : List (Int × List UInt8 × List UInt8)} (u : List UInt8) (hu : bd u) {lu : List (Int × List UInt8 × List UInt8)} (h2 : Toks u lu) (h : Toks s l) :
    Toks (s ++ u) (l.dropLast.map (fun q => (q.1, q.2.1, q.2.2 ++ u)) ++ lu) := by
  induction h with
  | @done s h =>
    have e := skp_ext u hu _ s [] (Nat.le_refl _) h
    rw [if_pos rfl] at e
    simp only [List.dropLast_singleton, List.map_nil, List.nil_append]
    cases h2 with
    | done g => exact .done (e.trans g)
    | next g g1 g2 g3 => exact .next (e.trans g) g1 g2 g3
  | @next s s' r x k l h h1 hk h3 ih =>
    have e := skp_ext u hu _ s s' (Nat.le_refl _) h
    rw [if_neg h1] at e
    have hl : l ≠ [] := by cases h3 <;> simp
    rw [List.dropLast_cons_of_ne_nil hl, List.map_cons, List.cons_append]
    exact .next e (by simp [h1]) (tk_ext u hu hk) ih
theorem Toks.last {s : List UInt8} {l : List (Int × List UInt8 × List UInt8)} (h : Toks s l) : ∃ l', l = l' ++ [(8, [], [])] := by
  induction h with
  | done h => exact ⟨[], rfl⟩
  | next h h1 h2 h3 ih => obtain ⟨l', rfl⟩ := ih; exact ⟨_ :: l', rfl⟩
end Go.Proofs.YthbjlmoaceaeeaaDoor
