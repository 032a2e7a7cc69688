/- For every input the law ExplainParses returns true. Part 12 of 14. No condition. -/
import Derived.Test.YtlhikhaailhoaaaDoorLGk
import Derived.Test.YtlhikhaailhoaaaDoorRows
import Derived.Shelf.Vars
set_option linter.unusedVariables false
set_option linter.unusedSimpArgs false
set_option maxRecDepth 100000
namespace Go.Proofs.YtlhikhaailhoaaaDoor
open Go Go.Abs
theorem op24 (n : Nat) : OpensAt Tryd.prog n 24 Api.Reason.c (fun _ => True) :=
  opensAt_struct Tryd.underlying24 (N := 2) (by kernel_rfl) (fun p => ⟨p.1, p.2.1⟩) (fun p => by simp) (fun _ _ => trivial) (fun k hk =>
    fieldsAt_cons rfl (k := 1) (by kernel_rfl) (opensAt_int Tryd.underlying3 k) (fieldsAt_cons rfl (k := 1) (by kernel_rfl) (opensAt_str Tryd.underlying9 k) (fieldsAt_nil (by decide))))
theorem op27 (n : Nat) : OpensAt Tryd.prog n 27 Api.Step.c (fun _ => True) :=
  opensAt_struct Tryd.underlying27 (N := 6) (by kernel_rfl) (fun p => ⟨p.1, p.2.1, p.2.2.1, p.2.2.2.1, p.2.2.2.2.1⟩) (fun p => by simp) (fun _ _ => trivial) (fun k hk =>
    fieldsAt_cons rfl (k := 1) (by kernel_rfl) (opensAt_str Tryd.underlying9 k) (fieldsAt_cons rfl (k := 2) (by kernel_rfl) (op24 k)
      (fieldsAt_cons rfl (k := 1) (by kernel_rfl) (opensAt_bool Tryd.underlying4 k) (fieldsAt_cons rfl (k := 1) (by kernel_rfl) (opensAt_int Tryd.underlying25 k)
        (fieldsAt_cons rfl (k := 1) (by kernel_rfl) (opensAt_bool Tryd.underlying4 k) (fieldsAt_nil (by decide)))))))
theorem own : ownKnob Tryd.prog.godebug = none := by kernel_rfl
theorem laid : laidOutB Tryd.prog = true := by kernel_rfl
theorem glob : ∀ W : World, W.ShapedOpen Tryd.prog → GOk (fun x => W.cell? x) := fun W h i hi => by
  obtain rfl : i = 0 := by simpa [gl] using hi
  exact cell_of_shapedOpen_int h (t := 3) (zero := #[.int .i64 0]) (k := .i64) (of_decide_eq_true (by kernel_rfl)) (by kernel_rfl) rfl (by kernel_rfl) (by kernel_rfl) Tryd.underlying3
end Go.Proofs.YtlhikhaailhoaaaDoor
set_option linter.unusedVariables false
set_option linter.unusedSimpArgs false
set_option maxRecDepth 100000
namespace Go.Proofs.YtlhikhaailhoaaaDoor
open Go Go.Abs
theorem obind {α β : Type} (a : α) (f : α → Option β) : (some a).bind f = f a := Eq.trans (Option.bind_some a f) rfl
theorem chk64 {n : Int} (h1 : -9223372036854775808 ≤ n) (h2 : n ≤ 9223372036854775807) : chk .i64 n = some n := by rw [chk, if_pos]; exact ⟨h1, h2⟩
theorem app_some {α : Type} {b : Nat} {x y : List α} (h : 0 < b) (h2 : (x.length + y.length) * b ≤ 140737488355328) : app b x y = some (x ++ y) := by rw [app, if_pos ⟨h, h2⟩]
theorem app1 {x y : List UInt8} (h : x.length + y.length ≤ 140737488355328) : app 1 x y = some (x ++ y) := app_some (by decide) (by omega)
theorem cat1 {x y : List UInt8} (h : x.length + y.length ≤ 1152921504606846976) : cat x y = some (x ++ y) := by rw [cat, if_pos h]
theorem idxN {α : Type} (l : List α) (i : Nat) : idx l (i : Int) = l[i]? := by rw [idx, if_pos (by omega)]; simp
theorem subD (s : List UInt8) (i : Nat) (h : i ≤ s.length) : subC s (i : Int) (s.length : Int) = some (s.drop i) := by
  rw [subC, if_pos ⟨by omega, by omega, by omega⟩]
  unfold sub
  rw [List.take_of_length_le (by simp)]
  simp
theorem subT {α : Type} (s : List α) (n : Nat) (h : n ≤ s.length) : subC s 0 (n : Int) = some (s.take n) := by
  rw [subC, if_pos ⟨by omega, by omega, by omega⟩]
  simp [sub]
theorem all_bytes (P : UInt8 → Bool) (h : (List.range 256).all (fun n => P (UInt8.ofNat n)) = true) (c : UInt8) : P c = true := by
  have := List.all_eq_true.1 h c.toNat (List.mem_range.2 c.toNat_lt)
  simpa using this
def caB (c : UInt8) : Bool := decide (65 ≤ c.toNat) && decide (c.toNat ≤ 90)
def inU (c : UInt8) : Bool := (decide (97 ≤ c.toNat) && decide (c.toNat ≤ 122)) || caB c || (decide (48 ≤ c.toNat) && decide (c.toNat ≤ 57)) || decide (c.toNat = 95)
def upS : List UInt8 → Bool
  | [] => false
  | c :: s => decide ((c :: s).length ≤ 24) && (caB c && (c :: s).all inU)
theorem upS_cons (c : UInt8) (s : List UInt8) : upS (c :: s) = (decide ((c :: s).length ≤ 24) && (caB c && (c :: s).all inU)) := rfl
theorem of_M (c : UInt8) : ∃ k, M.ident_of c = some k ∧ ((eqI k 0 || eqI k 5) = !inU c) ∧ (eqI k 2 = caB c) := by
  have h := all_bytes (fun c => match M.ident_of c with | some k => ((eqI k 0 || eqI k 5) == !inU c) && (eqI k 2 == caB c) | none => false) (by kernel_rfl) c
  cases hk : M.ident_of c with
  | none => rw [hk] at h; cases h
  | some k =>
    rw [hk] at h
    simp only [Bool.and_eq_true, beq_iff_eq] at h
    exact ⟨k, rfl, h.1, h.2⟩
theorem Inner_M (c : UInt8) : M.ref01_Inner c = some (inU c) := by
  have h := all_bytes (fun c => match M.ref01_Inner c with | some b => b == inU c | none => false) (by kernel_rfl) c
  cases hk : M.ref01_Inner c with
  | none => rw [hk] at h; cases h
  | some k =>
    rw [hk] at h
    rw [beq_iff_eq] at h
    rw [h]
theorem Capital_M (c : UInt8) : M.ref01_Capital c = some (caB c) := by
  have h := all_bytes (fun c => match M.ref01_Capital c with | some b => b == caB c | none => false) (by kernel_rfl) c
  cases hk : M.ref01_Capital c with
  | none => rw [hk] at h; cases h
  | some k =>
    rw [hk] at h
    rw [beq_iff_eq] at h
    rw [h]
theorem name_loop (l : List UInt8) : ∀ (n i k : Nat), i + n = l.length → n + 1 ≤ k → M.ident_name_l1 l k i = some (if (l.drop i).all inU = true then .inr () else .inl false) := by
  intro n
  induction n with
  | zero =>
    intro i k hi hk
    obtain ⟨g, rfl⟩ : ∃ g, k = g + 1 := ⟨k - 1, by omega⟩
    rw [M.ident_name_l1, if_neg (show ¬ ltI (i : Int) (l.length : Int) = true from fun h => by have := ltT h; omega), List.drop_eq_nil_of_le (by omega)]
    rfl
  | succ n ih =>
    intro i k hi hk
    obtain ⟨g, rfl⟩ : ∃ g, k = g + 1 := ⟨k - 1, by omega⟩
    have hx : l[i]? = some l[i] := List.getElem?_eq_getElem (by omega)
    rw [M.ident_name_l1, if_pos (show ltI (i : Int) (l.length : Int) = true from decide_eq_true (by omega)), hx, List.drop_eq_getElem_cons (by omega), List.all_cons]
    generalize l[i] = c
    obtain ⟨z, z1, z2, _⟩ := of_M c
    simp only [obind, z1, z2]
    cases inU c
    · rfl
    · simp only [Bool.not_true, Bool.false_eq_true, if_false, Bool.true_and]
      exact ih (i + 1) g (by omega) (by omega)
theorem IsUpper_M (s : List UInt8) {fuel : Nat} (hf : 30 ≤ fuel) : M.ident_IsUpper fuel s = some (upS s) := by
  rw [M.ident_IsUpper, M.ident_name]
  match s with
  | [] => rfl
  | c :: s =>
    rw [show eqS (c :: s) [] = false from decide_eq_false (by simp)]
    simp only [Bool.false_eq_true, if_false]
    by_cases hl : (c :: s).length ≤ 24
    · rw [show ltI 24 ((c :: s).length : Int) = false from decide_eq_false (by omega)]
      obtain ⟨z, z1, _, z3⟩ := of_M c
      simp only [Bool.false_eq_true, if_false, List.getElem?_cons_zero, obind, z1, z3]
      have hu : upS (c :: s) = (caB c && (c :: s).all inU) := by rw [upS_cons, decide_eq_true hl, Bool.true_and]
      rw [hu]
      cases caB c
      · rfl
      · simp only [Bool.not_true, Bool.false_eq_true, if_false, Bool.true_and]
        rw [bytesC, if_pos (by omega)]
        simp only [obind]
        rw [name_loop (c :: s) (c :: s).length 0 fuel (by omega) (by omega), List.drop_zero]
        cases (c :: s).all inU <;> rfl
    · rw [show ltI 24 ((c :: s).length : Int) = true from decide_eq_true (by omega)]
      have hu : upS (c :: s) = false := by rw [upS_cons, decide_eq_false hl, Bool.false_and]
      rw [hu]; rfl
theorem inner_loop (l : List UInt8) : ∀ (n i k : Nat), i + n = l.length → n + 1 ≤ k → M.ref01_inner_l1 l k i = some (if (l.drop i).all inU = true then .inr () else .inl false) := by
  intro n
  induction n with
  | zero =>
    intro i k hi hk
    obtain ⟨g, rfl⟩ : ∃ g, k = g + 1 := ⟨k - 1, by omega⟩
    rw [M.ref01_inner_l1, if_neg (show ¬ ltI (i : Int) (l.length : Int) = true from fun h => by have := ltT h; omega), List.drop_eq_nil_of_le (by omega)]
    rfl
  | succ n ih =>
    intro i k hi hk
    obtain ⟨g, rfl⟩ : ∃ g, k = g + 1 := ⟨k - 1, by omega⟩
    have hx : l[i]? = some l[i] := List.getElem?_eq_getElem (by omega)
    rw [M.ref01_inner_l1, if_pos (show ltI (i : Int) (l.length : Int) = true from decide_eq_true (by omega)), hx, List.drop_eq_getElem_cons (by omega), List.all_cons]
    generalize l[i] = c
    simp only [obind, Inner_M]
    cases inU c
    · rfl
    · simp only [Bool.not_true, Bool.false_eq_true, if_false, Bool.true_and]
      exact ih (i + 1) g (by omega) (by omega)
theorem RUpper_M (s : List UInt8) {fuel : Nat} (hf : 30 ≤ fuel) : M.ref01_IsUpper fuel s = some (upS s) := by
  rw [M.ref01_IsUpper, M.ref01_Word]
  match s with
  | [] => rfl
  | c :: s =>
    rw [show leI 1 ((c :: s).length : Int) = true from decide_eq_true (by simp; omega)]
    simp only [if_true]
    by_cases hl : (c :: s).length ≤ 24
    · rw [show leI ((c :: s).length : Int) 24 = true from decide_eq_true (by omega), M.ref01_inner, inner_loop (c :: s) (c :: s).length 0 fuel (by omega) (by omega), List.drop_zero]
      have hu : upS (c :: s) = (caB c && (c :: s).all inU) := by rw [upS_cons, decide_eq_true hl, Bool.true_and]
      rw [hu]
      cases (c :: s).all inU
      · simp only [Bool.and_false]; rfl
      · simp only [Bool.and_true, if_true, obind, Sum.elim_inr, List.getElem?_cons_zero, Capital_M]
    · rw [show leI ((c :: s).length : Int) 24 = false from decide_eq_false (by omega)]
      have hu : upS (c :: s) = false := by rw [upS_cons, decide_eq_false hl, Bool.false_and]
      rw [hu]; rfl
theorem upS_len {s : List UInt8} (h : upS s = true) : s.length ≤ 24 := by
  match s, h with
  | c :: s, h =>
    rw [upS_cons] at h
    simp only [Bool.and_eq_true, decide_eq_true_eq] at h
    exact h.1
theorem upS_not {s : List UInt8} (h : upS s = true) {c : UInt8} (hc : inU c = false) : c ∉ s := by
  match s, h with
  | d :: s, h =>
    rw [upS_cons] at h
    simp only [Bool.and_eq_true] at h
    intro hm
    have := List.all_eq_true.1 h.2.2 c hm
    rw [hc] at this; cases this
def vst (x : Api.Step) : Bool := upS x.Unit && (decide (0 ≤ x.Reason.Op ∧ x.Reason.Op ≤ 4) && (decide (0 ≤ x.Code ∧ x.Code ≤ 30) && (if x.Reason.Op = 4 then upS x.Reason.Unit else decide (x.Reason.Unit = []))))
theorem valid_M (x : Api.Step) {fuel : Nat} (hf : 30 ≤ fuel) : M.explain_valid fuel x = some (vst x) := by
  rw [M.explain_valid, IsUpper_M _ hf]
  unfold vst
  simp only [obind]
  cases upS x.Unit
  · rfl
  simp only [Bool.not_true, Bool.false_eq_true, if_false, Bool.true_and]
  by_cases h1 : x.Reason.Op < 0
  · rw [show ltI x.Reason.Op 0 = true from decide_eq_true h1, decide_eq_false (by omega)]; rfl
  rw [show ltI x.Reason.Op 0 = false from decide_eq_false h1]
  by_cases h2 : 4 < x.Reason.Op
  · rw [show ltI 4 x.Reason.Op = true from decide_eq_true h2, decide_eq_false (by omega)]; rfl
  rw [show ltI 4 x.Reason.Op = false from decide_eq_false h2, decide_eq_true (show 0 ≤ x.Reason.Op ∧ x.Reason.Op ≤ 4 from ⟨by omega, by omega⟩)]
  by_cases h3 : x.Code < 0
  · rw [show ltI x.Code 0 = true from decide_eq_true h3, decide_eq_false (by omega)]; rfl
  rw [show ltI x.Code 0 = false from decide_eq_false h3]
  by_cases h4 : 30 < x.Code
  · rw [show ltI 30 x.Code = true from decide_eq_true h4, decide_eq_false (by omega)]; rfl
  rw [show ltI 30 x.Code = false from decide_eq_false h4, decide_eq_true (show 0 ≤ x.Code ∧ x.Code ≤ 30 from ⟨by omega, by omega⟩)]
  simp only [Bool.false_eq_true, if_false, obind, Bool.true_and]
  by_cases h5 : x.Reason.Op = 4
  · rw [show eqI x.Reason.Op 4 = true from decide_eq_true h5, if_pos rfl, if_pos h5, IsUpper_M _ hf]; rfl
  · rw [show eqI x.Reason.Op 4 = false from decide_eq_false h5, if_neg (by simp), if_neg h5]; rfl
theorem Valid_M (x : Api.Step) {fuel : Nat} (hf : 30 ≤ fuel) : M.ref55_Valid fuel x = some (vst x) := by
  rw [M.ref55_Valid, RUpper_M _ hf]
  unfold vst
  simp only [obind]
  cases upS x.Unit
  · rfl
  simp only [Bool.not_true, Bool.false_eq_true, if_false, Bool.true_and]
  by_cases h1 : x.Reason.Op < 0
  · rw [show ltI x.Reason.Op 0 = true from decide_eq_true h1, decide_eq_false (by omega)]; rfl
  rw [show ltI x.Reason.Op 0 = false from decide_eq_false h1]
  by_cases h2 : 4 < x.Reason.Op
  · rw [show ltI 4 x.Reason.Op = true from decide_eq_true h2, decide_eq_false (by omega)]; rfl
  rw [show ltI 4 x.Reason.Op = false from decide_eq_false h2, decide_eq_true (show 0 ≤ x.Reason.Op ∧ x.Reason.Op ≤ 4 from ⟨by omega, by omega⟩)]
  by_cases h3 : x.Code < 0
  · rw [show ltI x.Code 0 = true from decide_eq_true h3, decide_eq_false (by omega)]; rfl
  rw [show ltI x.Code 0 = false from decide_eq_false h3]
  by_cases h4 : 30 < x.Code
  · rw [show ltI 30 x.Code = true from decide_eq_true h4, decide_eq_false (by omega)]; rfl
  rw [show ltI 30 x.Code = false from decide_eq_false h4, decide_eq_true (show 0 ≤ x.Code ∧ x.Code ≤ 30 from ⟨by omega, by omega⟩)]
  simp only [Bool.false_eq_true, if_false, obind, Bool.true_and]
  by_cases h5 : x.Reason.Op = 4
  · rw [show eqI x.Reason.Op 4 = true from decide_eq_true h5, if_pos rfl, if_pos h5, RUpper_M _ hf]; rfl
  · rw [show eqI x.Reason.Op 4 = false from decide_eq_false h5, if_neg (by simp), if_neg h5]; rfl
theorem vst_iff {x : Api.Step} (h : vst x = true) : upS x.Unit = true ∧ (0 ≤ x.Reason.Op ∧ x.Reason.Op ≤ 4) ∧ (0 ≤ x.Code ∧ x.Code ≤ 30) ∧ (if x.Reason.Op = 4 then upS x.Reason.Unit = true else x.Reason.Unit = []) := by
  unfold vst at h
  simp only [Bool.and_eq_true, decide_eq_true_eq] at h
  refine ⟨h.1, h.2.1, h.2.2.1, ?_⟩
  have := h.2.2.2
  split at this
  · rename_i h5; rw [if_pos h5]; exact this
  · rename_i h5; rw [if_neg h5]; exact of_decide_eq_true this
def ERRS : List (List UInt8) := (M.ref55_Errors).getD []
def UNK : List UInt8 := [117, 110, 107, 110, 111, 119, 110, 32, 101, 114, 114, 111, 114]
def errT (e : Int) : List UInt8 := if 0 ≤ e ∧ e ≤ 30 then ERRS.getD e.toNat [] else UNK
theorem ERRS_M : M.ref55_Errors = some ERRS := by kernel_rfl
theorem ERRS_len : ERRS.length = 31 := by kernel_rfl
theorem errs_M : (List.range 31).all (fun n => decide (M.explain_Error (n : Int) = some (ERRS.getD n []))) = true := by kernel_rfl
theorem Error_M (e : Int) : M.explain_Error e = some (errT e) := by
  unfold errT
  by_cases h : 0 ≤ e ∧ e ≤ 30
  · rw [if_pos h]
    obtain ⟨n, rfl⟩ : ∃ n : Nat, e = n := ⟨e.toNat, by omega⟩
    have := List.all_eq_true.1 errs_M n (List.mem_range.2 (by omega))
    rw [of_decide_eq_true this]
    rfl
  · rw [if_neg h, M.explain_Error]
    repeat rw [if_neg (show ¬ eqI e _ = true from fun h' => by have := eqT h'; omega)]
    rfl
theorem RError_M (e : Int) : M.ref55_Error e = some (errT e) := by
  rw [M.ref55_Error, ERRS_M]
  unfold errT
  simp only [obind, ERRS_len]
  by_cases h : 0 ≤ e ∧ e ≤ 30
  · rw [if_pos h, show ltI e 0 = false from decide_eq_false (by omega), show leI ((31 : Nat) : Int) e = false from decide_eq_false (by omega)]
    obtain ⟨n, rfl⟩ : ∃ n : Nat, e = n := ⟨e.toNat, by omega⟩
    rw [if_neg (by simp), idxN]
    have hn : n < ERRS.length := by rw [ERRS_len]; omega
    rw [List.getElem?_eq_getElem hn]
    simp only [obind, Int.toNat_natCast]
    rw [List.getD_eq_getElem?_getD, List.getElem?_eq_getElem hn]; rfl
  · rw [if_neg h]
    have : (ltI e 0 || leI ((31 : Nat) : Int) e) = true := by
      by_cases h1 : e < 0
      · rw [show ltI e 0 = true from decide_eq_true h1]; rfl
      · rw [show leI ((31 : Nat) : Int) e = true from decide_eq_true (by omega), Bool.or_true]
    rw [this]; rfl
theorem errs_ok : ERRS.all (fun t => decide (t.length ≤ 60) && (t.all (fun c => decide (c ≠ 59 ∧ c ≠ 10)))) = true := by kernel_rfl
theorem errT_ok (e : Int) : (errT e).length ≤ 60 ∧ 59 ∉ errT e ∧ 10 ∉ errT e := by
  unfold errT
  split
  · rename_i h
    have hn : e.toNat < ERRS.length := by rw [ERRS_len]; omega
    rw [List.getD_eq_getElem?_getD, List.getElem?_eq_getElem hn, Option.getD_some]
    have := List.all_eq_true.1 errs_ok _ (List.getElem_mem hn)
    simp only [Bool.and_eq_true, decide_eq_true_eq, List.all_eq_true] at this
    exact ⟨this.1, fun hm => (this.2 _ hm).1 rfl, fun hm => (this.2 _ hm).2 rfl⟩
  · unfold UNK; decide
theorem errs_dist : (List.range 31).all (fun i => (List.range 31).all fun j => decide (i = j) || !decide (ERRS.getD i [] = ERRS.getD j [])) = true := by kernel_rfl
theorem errT_inj {i j : Nat} (hi : i ≤ 30) (hj : j ≤ 30) (h : errT i = errT j) : i = j := by
  have := List.all_eq_true.1 (List.all_eq_true.1 errs_dist i (List.mem_range.2 (by omega))) j (List.mem_range.2 (by omega))
  unfold errT at h
  rw [if_pos ⟨by omega, by omega⟩, if_pos ⟨by omega, by omega⟩, Int.toNat_natCast, Int.toNat_natCast] at h
  rw [decide_eq_true h] at this
  simpa using this
def NB : List UInt8 := [110, 101, 118, 101, 114, 32, 98, 117, 105, 108, 116]
def NS : List UInt8 := [110, 101, 119, 32, 115, 111, 117, 114, 99, 101]
def OI : List UInt8 := [111, 116, 104, 101, 114, 32, 105, 109, 112, 111, 114, 116, 115]
def NO : List UInt8 := [110, 111, 116, 104, 105, 110, 103, 32, 104, 97, 115, 32, 99, 104, 97, 110, 103, 101, 100]
def BEF : List UInt8 := [116, 104, 101, 32, 105, 110, 116, 101, 114, 102, 97, 99, 101, 32, 111, 102, 32]
def AFT : List UInt8 := [32, 104, 97, 115, 32, 99, 104, 97, 110, 103, 101, 100]
def rsn (r : Api.Reason) : List UInt8 := if r.Op = 1 then NB else if r.Op = 2 then NS else if r.Op = 3 then OI else if r.Op = 4 then BEF ++ r.Unit ++ AFT else NO
def cmp : Bool → List UInt8
  | true => [99, 111, 109, 112, 105, 108, 101, 100]
  | false => [110, 111, 116, 32, 99, 111, 109, 112, 105, 108, 101, 100]
def sme : Bool → List UInt8
  | true => [115, 97, 109, 101, 32, 105, 110, 116, 101, 114, 102, 97, 99, 101]
  | false => [111, 116, 104, 101, 114, 32, 105, 110, 116, 101, 114, 102, 97, 99, 101]
def rest (x : Api.Step) : List UInt8 := rsn x.Reason ++ [59, 32] ++ (cmp x.Compiled ++ [59, 32] ++ (sme x.Same ++ [59, 32] ++ errT x.Code))
def txt (x : Api.Step) : List UInt8 := x.Unit ++ [58, 32] ++ rest x
theorem rsn_ok {x : Api.Step} (h : vst x = true) : (rsn x.Reason).length ≤ 60 ∧ x.Reason.Unit.length ≤ 24 ∧ ∀ c : UInt8, inU c = false → c ∉ NB → c ∉ NS → c ∉ OI → c ∉ NO → c ∉ BEF → c ∉ AFT → c ∉ rsn x.Reason := by
  obtain ⟨_, h2, _, h4⟩ := vst_iff h
  have hu : x.Reason.Unit.length ≤ 24 := by
    split at h4
    · exact upS_len h4
    · rw [h4]; simp
  refine ⟨?_, hu, fun c c0 c1 c2 c3 c4 c5 c6 => ?_⟩
  · unfold rsn
    split; · decide
    split; · decide
    split; · decide
    split
    · rw [List.length_append, List.length_append]
      have : BEF.length = 17 := rfl
      have : AFT.length = 12 := rfl
      omega
    · decide
  · unfold rsn
    split; · exact c1
    split; · exact c2
    split; · exact c3
    split
    · rename_i h5
      rw [if_pos h5] at h4
      intro hm
      rcases List.mem_append.1 hm with hm | hm
      · rcases List.mem_append.1 hm with hm | hm
        · exact c5 hm
        · exact upS_not h4 c0 hm
      · exact c6 hm
    · exact c4
theorem txt_len {x : Api.Step} (h : vst x = true) : (txt x).length ≤ 200 := by
  have h1 := upS_len (vst_iff h).1
  have h2 := (rsn_ok h).1
  have h3 := (errT_ok x.Code).1
  have h4 : (cmp x.Compiled).length ≤ 12 := by cases x.Compiled <;> decide
  have h5 : (sme x.Same).length ≤ 15 := by cases x.Same <;> decide
  unfold txt rest
  simp only [List.length_append, List.length_cons, List.length_nil]
  omega
theorem reason_M {x : Api.Step} (h : vst x = true) : M.explain_reason x.Reason = some (rsn x.Reason) := by
  have hu := (rsn_ok h).2.1
  rw [M.explain_reason]
  unfold rsn
  by_cases h1 : x.Reason.Op = 1
  · rw [if_pos (show eqI x.Reason.Op 1 = true from decide_eq_true h1), if_pos h1]; rfl
  rw [if_neg (show ¬ eqI x.Reason.Op 1 = true from fun e => h1 (eqT e)), if_neg h1]
  by_cases h2 : x.Reason.Op = 2
  · rw [if_pos (show eqI x.Reason.Op 2 = true from decide_eq_true h2), if_pos h2]; rfl
  rw [if_neg (show ¬ eqI x.Reason.Op 2 = true from fun e => h2 (eqT e)), if_neg h2]
  by_cases h3 : x.Reason.Op = 3
  · rw [if_pos (show eqI x.Reason.Op 3 = true from decide_eq_true h3), if_pos h3]; rfl
  rw [if_neg (show ¬ eqI x.Reason.Op 3 = true from fun e => h3 (eqT e)), if_neg h3]
  by_cases h4 : x.Reason.Op = 4
  · rw [if_pos (show eqI x.Reason.Op 4 = true from decide_eq_true h4), if_pos h4, cat1 (by simp; omega)]
    simp only [obind]
    rw [cat1 (by simp; omega)]; rfl
  rw [if_neg (show ¬ eqI x.Reason.Op 4 = true from fun e => h4 (eqT e)), if_neg h4]; rfl
theorem Rreason_M {x : Api.Step} (h : vst x = true) : M.ref55_reason x.Reason = some (rsn x.Reason) := by
  have hu := (rsn_ok h).2.1
  have hop := (vst_iff h).2.1
  rw [M.ref55_reason]
  unfold rsn
  by_cases h0 : x.Reason.Op = 0
  · rw [if_pos (show eqI x.Reason.Op 0 = true from decide_eq_true h0), h0]; rfl
  rw [if_neg (show ¬ eqI x.Reason.Op 0 = true from fun e => h0 (eqT e))]
  by_cases h1 : x.Reason.Op = 1
  · rw [if_pos (show eqI x.Reason.Op 1 = true from decide_eq_true h1), if_pos h1]; rfl
  rw [if_neg (show ¬ eqI x.Reason.Op 1 = true from fun e => h1 (eqT e)), if_neg h1]
  by_cases h2 : x.Reason.Op = 2
  · rw [if_pos (show eqI x.Reason.Op 2 = true from decide_eq_true h2), if_pos h2]; rfl
  rw [if_neg (show ¬ eqI x.Reason.Op 2 = true from fun e => h2 (eqT e)), if_neg h2]
  by_cases h3 : x.Reason.Op = 3
  · rw [if_pos (show eqI x.Reason.Op 3 = true from decide_eq_true h3), if_pos h3]; rfl
  rw [if_neg (show ¬ eqI x.Reason.Op 3 = true from fun e => h3 (eqT e)), if_neg h3]
  rw [if_pos (show x.Reason.Op = 4 by omega), cat1 (by simp; omega)]
  simp only [obind]
  rw [cat1 (by simp; omega)]; rfl
theorem Step_M (x : Api.Step) {fuel : Nat} (hf : 30 ≤ fuel) : M.explain_Step fuel x = some (if vst x = true then (txt x, 0) else ([], 1)) := by
  rw [M.explain_Step, valid_M x hf]
  simp only [obind]
  cases hv : vst x
  · rfl
  simp only [Bool.not_true, Bool.false_eq_true, if_false, if_true]
  rw [reason_M hv, Error_M]
  have e1 : M.explain_either x.Compiled [99, 111, 109, 112, 105, 108, 101, 100] [110, 111, 116, 32, 99, 111, 109, 112, 105, 108, 101, 100] = some (cmp x.Compiled) := by cases x.Compiled <;> rfl
  have e2 : M.explain_either x.Same [115, 97, 109, 101, 32, 105, 110, 116, 101, 114, 102, 97, 99, 101] [111, 116, 104, 101, 114, 32, 105, 110, 116, 101, 114, 102, 97, 99, 101] = some (sme x.Same) := by cases x.Same <;> rfl
  rw [e1, e2]
  have hj : Lib.join [rsn x.Reason, cmp x.Compiled, sme x.Same, errT x.Code] [59, 32] = rest x := by
    rw [Lib.join_cons]
    unfold rest Lib.joinTail
    simp
  have hl := txt_len hv
  unfold txt at hl
  simp only [List.length_append] at hl
  simp only [obind]
  rw [cat1 (by simp at hl ⊢; omega)]
  simp only [obind]
  rw [M.strings_Join, hj, if_pos ⟨by simp, by omega⟩]
  simp only [obind]
  rw [cat1 (by simp at hl ⊢; omega)]
  rfl
theorem Text_M {x : Api.Step} (hv : vst x = true) : M.ref55_Text x = some (txt x) := by
  have hl := txt_len hv
  unfold txt rest at hl ⊢
  have h1 := upS_len (vst_iff hv).1
  have h2 := (rsn_ok hv).1
  have h3 := (errT_ok x.Code).1
  rw [M.ref55_Text, Rreason_M hv, RError_M, cat1 (by simp; omega)]
  simp only [obind]
  rw [cat1 (by simp; omega)]
  simp only [obind]
  cases x.Compiled <;> cases x.Same <;>
  · simp only [Bool.false_eq_true, if_false, if_true]
    rw [cat1 (by simp; omega)]
    simp only [obind]
    rw [cat1 (by simp; omega)]
    simp only [obind]
    rw [cat1 (by simp; omega)]
    simp only [obind]
    rw [cat1 (by simp; omega)]
    simp [cmp, sme]
end Go.Proofs.YtlhikhaailhoaaaDoor
