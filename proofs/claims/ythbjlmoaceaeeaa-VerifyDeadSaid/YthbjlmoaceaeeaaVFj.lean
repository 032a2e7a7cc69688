/- For every input the law VerifyDead returns true. Part 10 of 13. No condition. -/
import Derived.Test.YthbjlmoaceaeeaaVFi
set_option linter.unusedVariables false
set_option linter.unusedSimpArgs false
set_option maxRecDepth 100000
set_option maxHeartbeats 1000000
namespace Go.Proofs.Ythbjlmoaceaeeaa
open Go Go.Abs
theorem awake_M {fuel : Nat} (h : 200 ≤ fuel) : M.law48_awake fuel = some true := by
  obtain ⟨g, rfl⟩ : ∃ g, fuel = g + 200 := ⟨fuel - 200, by omega⟩
  kernel_rfl
theorem big_M (p : Api.Program) {fuel : Nat} (hf : 1000 ≤ fuel) : ∃ b, M.law48_big fuel p = some b := by
  rw [M.law48_big]
  by_cases h1 : 10 < p.Funs.length
  · rw [ltI_t (by omega)]; exact ⟨true, rfl⟩
  rw [ltI_f (by omega)]
  by_cases h2 : 50 < p.Texts.length
  · rw [ltI_t (by omega)]; exact ⟨true, rfl⟩
  rw [ltI_f (by omega)]
  simp only [Bool.false_eq_true, if_false]
  have e1 : M.slices_ContainsFunc_string_big_1 fuel p.Texts = some (p.Texts.any fun s => ltI 1000 (s.length : Int)) := by
    rw [M.slices_ContainsFunc_string_big_1, M.slices_IndexFunc_string_big_1]
    exact cf_loop (s := p.Texts) (Q := fun x => M.law48_big_1 x) (g := M.slices_IndexFunc_string_big_1_l1 p.Texts) (fun k i => by rw [M.slices_IndexFunc_string_big_1_l1]) (fun x _ => rfl) (by omega)
  have e2 : M.slices_ContainsFunc_api_Fun_big_2 fuel p.Funs = some (p.Funs.any fun f => (ltI 200 (f.Code.length : Int)) || ((ltI 60 f.Locals) && (leI f.Locals 4096))) := by
    rw [M.slices_ContainsFunc_api_Fun_big_2, M.slices_IndexFunc_api_Fun_big_2]
    exact cf_loop (s := p.Funs) (Q := fun x => M.law48_big_2 x) (g := M.slices_IndexFunc_api_Fun_big_2_l1 p.Funs) (fun k i => by rw [M.slices_IndexFunc_api_Fun_big_2_l1]) (fun x _ => rfl) (by omega)
  rw [e1, e2]
  simp only [obind]
  split
  · exact ⟨_, rfl⟩
  · exact ⟨_, rfl⟩
theorem valid_fun {p : Api.Program} (h : validS p = true) {f : Api.Fun} (hf : f ∈ p.Funs) : FunOk p f := by
  unfold validS at h
  simp only [Bool.and_eq_true] at h
  obtain ⟨h1, h2, h3, h4, h5, h6, h7⟩ := h
  refine ⟨headS_iff.1 (List.all_eq_true.1 h4 f hf), fun at1 x hx => ?_⟩
  have := List.all_eq_true.1 h5 f hf
  unfold rightsS at this
  have hm : (x, at1) ∈ f.Code.zipIdx 0 := by rw [List.mem_zipIdx_iff_getElem?]; simpa using hx
  exact List.all_eq_true.1 this _ hm
theorem valid_len {p : Api.Program} (h : validS p = true) : 1 ≤ p.Funs.length ∧ p.Funs.length ≤ 4096 := by
  unfold validS at h
  simp only [Bool.and_eq_true] at h
  have := inn_iff.1 h.1
  omega
def Res (p : Api.Program) (n : Int) (o : Int ⊕ St) : Prop :=
  if validS p = false then o = .inl 1 else if n < 0 ∨ p.Funs.length ≤ n then o = .inl 2 else
    ∃ f, p.Funs[n.toNat]? = some f ∧ ((o = .inl 24 ∧ ∀ Y, ¬ Cons f Y) ∨ ∃ X, o = .inr X ∧ Least f X)
theorem Res.uniq {p : Api.Program} {n : Int} {o o' : Int ⊕ St} (h : Res p n o) (h' : Res p n o') : o = o' := by
  unfold Res at h h'
  split at h
  · rename_i hc
    rw [if_pos hc] at h'
    rw [h, h']
  · rename_i hc
    rw [if_neg hc] at h'
    split at h
    · rename_i hd
      rw [if_pos hd] at h'
      rw [h, h']
    · rename_i hd
      rw [if_neg hd] at h'
      obtain ⟨f, h1, h2⟩ := h
      obtain ⟨f', h3, h4⟩ := h'
      rw [h1] at h3; cases h3
      rcases h2 with ⟨rfl, h2⟩ | ⟨X, rfl, h2⟩ <;> rcases h4 with ⟨rfl, h4⟩ | ⟨Y, rfl, h4⟩
      · rfl
      · exact (h2 Y h4.1).elim
      · exact (h4 X h2.1).elim
      · rw [h2.uniq h4]
theorem Res.inr {p : Api.Program} {n : Int} {X : St} (h : Res p n (.inr X)) : validS p = true ∧ 0 ≤ n ∧ ∃ f, p.Funs[n.toNat]? = some f ∧ FunOk p f ∧ Least f X := by
  unfold Res at h
  split at h
  · cases h
  · rename_i hc
    split at h
    · cases h
    · rename_i hd
      obtain ⟨f, h1, h2⟩ := h
      rcases h2 with ⟨h2, _⟩ | ⟨Y, h2, h3⟩
      · cases h2
      · cases h2
        have hv : validS p = true := by simpa using hc
        exact ⟨hv, by omega, f, h1, valid_fun hv (List.mem_of_getElem? h1), h3⟩
theorem rl_D {f : Api.Fun} {s : M.VS} {X : St} (h : Rl f s X) (hl : X.length = f.Code.length) : s.D = X.map outD := by
  apply List.ext_getElem?
  intro t
  rcases Nat.lt_or_ge t f.Code.length with ht | ht
  · rcases h.rel t ht with ⟨x1, x2, x3⟩ | ⟨d, v, k, x1, x2, x3, x4, x5⟩
    · rw [x2, List.getElem?_map, x1]; rfl
    · rw [x2, List.getElem?_map, x1]; rfl
  · rw [List.getElem?_eq_none (by rw [h.dl]; exact ht), List.getElem?_eq_none (by simp [hl]; exact ht)]
theorem rowsOf_M (L : Nat) (R : List M.Blk) : ∀ (S : List (Option Nat)) (X : St), X.length = S.length → (∀ t : Nat, t < S.length → (X[t]? = some none ∧ S[t]? = some none) ∨ (∃ (d : Int) (r : List Bool) (k : Nat), X[t]? = some (some (d, r)) ∧ S[t]? = some (some k) ∧ M.rowOf R k = some r ∧ r.length = L)) →
    M.rowsOf L R S = some (X.map outS)
  | [], X, hl, h => by
    have : X = [] := by simpa using hl
    subst this; rfl
  | o :: S, [], hl, h => by simp at hl
  | o :: S, x :: X, hl, h => by
    have ih := rowsOf_M L R S X (by simpa using hl) fun t ht => by simpa using h (t + 1) (by simpa using ht)
    rcases h 0 (by simp) with ⟨x1, x2⟩ | ⟨d, r, k, x1, x2, x3, x4⟩
    · simp at x1 x2; subst x1; subst x2
      rw [M.rowsOf, ih]; rfl
    · simp at x1 x2; subst x1; subst x2
      rw [M.rowsOf, x3, obind, lenN, if_pos x4, obind, ih]; rfl
theorem reach_M : ∀ (D : List Int) (out : List Bool), out.length + D.length ≤ 100000 → M.verify_Reached_l D out = some (out ++ D.map fun d => leI 0 d)
  | [], out, h => by rw [M.verify_Reached_l]; simp
  | d :: D, out, h => by
    rw [M.verify_Reached_l, app_some (by decide) (by simp at h ⊢; omega), obind, reach_M D _ (by simp at h ⊢; omega)]; simp
def kE : Int ⊕ St → Int
  | .inl e => e
  | .inr _ => 0
def kD : Int ⊕ St → List Int × Int
  | .inl e => ([], e)
  | .inr X => (X.map outD, 0)
def kS : Int ⊕ St → List (List Bool) × Int
  | .inl e => ([], e)
  | .inr X => (X.map outS, 0)
def kR : Int ⊕ St → List Bool × Int
  | .inl e => ([], e)
  | .inr X => (X.map Option.isSome, 0)
def kO : Int ⊕ St → Ref48.States × Int
  | .inl e => (noStates, e)
  | .inr X => (states X, 0)
structure Knows (p : Api.Program) (n : Int) (fuel : Nat) (o : Int ⊕ St) : Prop where
  res : Res p n o
  fn : M.verify_Fun fuel p n = some (kE o)
  dep : M.verify_Depths fuel p n = some (kD o)
  set : M.verify_Set fuel p n = some (kS o)
  rea : M.verify_Reached fuel p n = some (kR o)
  ref : M.ref48_Of fuel p n = some (kO o)
theorem knows_err {p : Api.Program} {n : Int} {fuel : Nat} {e : Int} (h : Res p n (.inl e)) (h1 : M.verify_function fuel p n = some (.inl e)) (h2 : M.ref48_Of fuel p n = some (noStates, e)) : Knows p n fuel (.inl e) :=
  ⟨h, by rw [M.verify_Fun, h1]; rfl, by rw [M.verify_Depths, h1]; rfl, by rw [M.verify_Set, h1]; rfl, by rw [M.verify_Reached, h1]; rfl, h2⟩
theorem knows (p : Api.Program) (n : Int) {fuel : Nat} (hf : 100000000 ≤ fuel) : ∃ o, Knows p n fuel o := by
  cases hv : validS p with
  | false =>
    refine ⟨.inl 1, knows_err (by unfold Res; rw [if_pos hv]) ?_ ?_⟩
    · rw [M.verify_function, Valid_M p (by omega), obind, hv]; rfl
    · rw [M.ref48_Of, RValid_M p (by omega), obind, hv]; rfl
  | true =>
  by_cases hn : n < 0 ∨ p.Funs.length ≤ n
  · have e1 : ((ltI n 0) || (leI (p.Funs.length : Int) n)) = true := by
      rcases hn with h | h
      · rw [ltI_t h]; rfl
      · rw [leI_t h]; simp
    refine ⟨.inl 2, knows_err (by unfold Res; rw [if_neg (by simp [hv]), if_pos hn]) ?_ ?_⟩
    · rw [M.verify_function, Valid_M p (by omega), obind, hv, e1]; rfl
    · rw [M.ref48_Of, RValid_M p (by omega), obind, hv, e1]; rfl
  · rw [not_or] at hn
    have e1 : ((ltI n 0) || (leI (p.Funs.length : Int) n)) = false := by rw [ltI_f (by omega), leI_f (by omega)]; rfl
    obtain ⟨f, hfn, _, hmem⟩ := drop_split (s := p.Funs) (i := n.toNat) (by omega)
    have hF := valid_fun hv hmem
    have hidx : idx p.Funs n = some f := idx_some (by omega) hfn
    obtain ⟨b, s, a1, a2, a3⟩ := analyze_M hF hf
    have hres : ∀ o, ((o = .inl 24 ∧ ∀ Y, ¬ Cons f Y) ∨ ∃ X, o = .inr X ∧ Least f X) → Res p n o := fun o ho => by
      unfold Res; rw [if_neg (by simp [hv]), if_neg (by omega)]; exact ⟨f, hfn, ho⟩
    cases b with
    | false =>
      have hno := a3 rfl
      rcases RFun_M hF hf with ⟨r1, r2⟩ | ⟨X, r1, r2⟩
      · refine ⟨.inl 24, knows_err (hres _ (.inl ⟨rfl, hno⟩)) ?_ ?_⟩
        · rw [M.verify_function, Valid_M p (by omega), obind, hv, e1]
          simp only [Bool.not_true, Bool.false_eq_true, if_false]
          rw [hidx, obind, a1]; rfl
        · rw [M.ref48_Of, RValid_M p (by omega), obind, hv, e1]
          simp only [Bool.not_true, Bool.false_eq_true, if_false]
          rw [hidx, obind, r1]; rfl
      · exact (hno X r2.1).elim
    | true =>
      obtain ⟨X, l1, l2⟩ := a2 rfl
      rcases RFun_M hF hf with ⟨r1, r2⟩ | ⟨X', r1, r2⟩
      · exact (r2 X l1.1).elim
      · have := r2.uniq l1
        subst this
        have hl := l1.1.len
        have h1 := hF.head.n1
        have hfun : M.verify_function fuel p n = some (.inr s) := by
          rw [M.verify_function, Valid_M p (by omega), obind, hv, e1]
          simp only [Bool.not_true, Bool.false_eq_true, if_false]
          rw [hidx, obind, a1]; rfl
        refine ⟨.inr X', hres _ (.inr ⟨X', rfl, l1⟩), by rw [M.verify_Fun, hfun]; rfl, by rw [M.verify_Depths, hfun, obind, kD, ← rl_D l2 hl], ?_, ?_, ?_⟩
        · rw [M.verify_Set, hfun, obind]
          dsimp only
          rw [rowsOf_M s.f.Locals.toNat s.R s.S X' (by rw [hl, l2.sl]) fun t ht => ?_]
          · rfl
          · rw [l2.sl] at ht
            rcases l2.rel t ht with ⟨x1, x2, x3⟩ | ⟨d, v, k, x1, x2, x3, x4, x5⟩
            · exact .inl ⟨x1, x3⟩
            · exact .inr ⟨d, v, k, x1, x4, x5, by rw [l2.hf]; exact (l1.1.row t d v x1).1⟩
        · rw [M.verify_Reached, hfun, obind]
          dsimp only
          rw [reach_M _ _ (by rw [l2.dl]; simp; omega), obind, rl_D l2 hl, List.nil_append, List.map_map]
          congr 2
          apply List.map_congr_left
          intro o ho
          cases o with
          | none => rfl
          | some q =>
            obtain ⟨t, ht⟩ := List.getElem?_of_mem ho
            have := l1.1.row t q.1 q.2 ht
            exact leI_t this.2.1
        · rw [M.ref48_Of, RValid_M p (by omega), obind, hv, e1]
          simp only [Bool.not_true, Bool.false_eq_true, if_false]
          rw [hidx, obind, r1]; rfl
open Classical in
noncomputable def accB (f : Api.Fun) : Bool := decide (∃ Y, Cons f Y)
theorem accB_t {f : Api.Fun} {X : St} (h : Least f X) : accB f = true := by unfold accB; simp only [decide_eq_true_eq]; exact ⟨X, h.1⟩
theorem accB_f {f : Api.Fun} (h : ∀ Y, ¬ Cons f Y) : accB f = false := by unfold accB; simp only [decide_eq_false_iff_not]; exact fun ⟨Y, hY⟩ => h Y hY
theorem check_l {p : Api.Program} {fuel : Nat} (hf : 100000000 ≤ fuel) : ∀ l : List Api.Fun, (∀ f ∈ l, FunOk p f) → M.verify_Check_l fuel l = some (if l.all accB then 0 else 24)
  | [], _ => rfl
  | f :: l, h => by
    obtain ⟨b, s, a1, a2, a3⟩ := analyze_M (h f (List.mem_cons_self ..)) hf
    rw [M.verify_Check_l, a1, obind, List.all_cons]
    cases b with
    | false => rw [accB_f (a3 rfl)]; rfl
    | true =>
      obtain ⟨X, l1, _⟩ := a2 rfl
      rw [accB_t l1, Bool.true_and]
      exact check_l hf l fun g hg => h g (List.mem_cons_of_mem _ hg)
theorem rcheck_l {p : Api.Program} {fuel : Nat} (hf : 100000000 ≤ fuel) (hp : ∀ f ∈ p.Funs, FunOk p f) : ∀ n k i, i + n = p.Funs.length → n < k → M.ref48_Check_l1 fuel p k i = some (if (p.Funs.drop i).all accB then .inr () else .inl 24)
  | 0, k, i, hi, hk => by
    obtain ⟨k, rfl⟩ : ∃ g, k = g + 1 := ⟨k - 1, by omega⟩
    rw [M.ref48_Check_l1, ltI_f (by omega), List.drop_eq_nil_of_le (by omega)]; rfl
  | n + 1, k, i, hi, hk => by
    obtain ⟨k, rfl⟩ : ∃ g, k = g + 1 := ⟨k - 1, by omega⟩
    obtain ⟨f, h1, h2, h3⟩ := drop_split (s := p.Funs) (i := i) (by omega)
    rw [M.ref48_Check_l1, ltI_t (by omega), if_pos rfl, h1, obind, h2, List.all_cons]
    rcases RFun_M (hp f h3) hf with ⟨r1, r2⟩ | ⟨X, r1, r2⟩
    · rw [r1, accB_f r2]; rfl
    · rw [r1, accB_t r2, Bool.true_and]
      exact rcheck_l hf hp n k (i + 1) (by omega) (by omega)
noncomputable def checkS (p : Api.Program) : Int := if validS p = false then 1 else if p.Funs.all accB then 0 else 24
theorem Check_M (p : Api.Program) {fuel : Nat} (hf : 100000000 ≤ fuel) : M.verify_Check fuel p = some (checkS p) := by
  rw [M.verify_Check, Valid_M p (by omega), obind]
  unfold checkS
  cases hv : validS p with
  | false => rfl
  | true =>
    simp only [Bool.not_true, Bool.false_eq_true, if_false, Bool.true_eq_false]
    exact check_l hf _ fun f h => valid_fun hv h
theorem RCheck_M (p : Api.Program) {fuel : Nat} (hf : 100000000 ≤ fuel) : M.ref48_Check fuel p = some (checkS p) := by
  rw [M.ref48_Check, RValid_M p (by omega), obind]
  unfold checkS
  cases hv : validS p with
  | false => rfl
  | true =>
    simp only [Bool.not_true, Bool.false_eq_true, if_false, Bool.true_eq_false]
    have := valid_len hv
    rw [rcheck_l hf (fun f h => valid_fun hv h) p.Funs.length fuel 0 (by omega) (by omega), List.drop_zero]
    cases p.Funs.all accB <;> rfl
theorem VerifyChecks_true (p : Api.Program) (n : Int) (_ : Rng .i64 n) : ∃ fuel, M.law48_VerifyChecks fuel p n = some true := by
  refine ⟨100000000, ?_⟩
  obtain ⟨b, hb⟩ := big_M p (fuel := 100000000) (by omega)
  rw [M.law48_VerifyChecks, awake_M (by omega)]
  simp only [obind, Bool.not_true, Bool.false_eq_true, if_false, hb]
  cases b with
  | true => rfl
  | false =>
    obtain ⟨o, ho⟩ := knows p n (fuel := 100000000) (by omega)
    rw [ho.ref, Check_M p (by omega), RCheck_M p (by omega), ho.fn]
    simp only [obind, Bool.false_eq_true, if_false]
    rw [eqI_t rfl]
    cases o with
    | inl e => simp only [if_true, obind, kE, kO]; rw [eqI_t rfl]
    | inr X => rfl
theorem eqInt_refl (s : List Int) : ∀ n k i, i + n = s.length → n < k → M.slices_Equal_int_l1 s s k i = some (.inr ())
  | 0, k, i, hi, hk => by
    obtain ⟨k, rfl⟩ : ∃ g, k = g + 1 := ⟨k - 1, by omega⟩
    rw [M.slices_Equal_int_l1, ltI_f (by omega)]; rfl
  | n + 1, k, i, hi, hk => by
    obtain ⟨k, rfl⟩ : ∃ g, k = g + 1 := ⟨k - 1, by omega⟩
    obtain ⟨x, h1, h2, h3⟩ := drop_split (s := s) (i := i) (by omega)
    rw [M.slices_Equal_int_l1, ltI_t (by omega), if_pos rfl, h1, obind, obind, eqI_t rfl, if_neg (by simp)]
    exact eqInt_refl s n k (i + 1) (by omega) (by omega)
theorem EqInt_M (s : List Int) {fuel : Nat} (h : s.length < fuel) : M.slices_Equal_int fuel s s = some true := by
  rw [M.slices_Equal_int, eqI_t rfl, eqInt_refl s s.length fuel 0 (by omega) h]; rfl
theorem eqBool_refl (s : List Bool) : ∀ n k i, i + n = s.length → n < k → M.slices_Equal_bool_l1 s s k i = some (.inr ())
  | 0, k, i, hi, hk => by
    obtain ⟨k, rfl⟩ : ∃ g, k = g + 1 := ⟨k - 1, by omega⟩
    rw [M.slices_Equal_bool_l1, ltI_f (by omega)]; rfl
  | n + 1, k, i, hi, hk => by
    obtain ⟨k, rfl⟩ : ∃ g, k = g + 1 := ⟨k - 1, by omega⟩
    obtain ⟨x, h1, h2, h3⟩ := drop_split (s := s) (i := i) (by omega)
    rw [M.slices_Equal_bool_l1, ltI_t (by omega), if_pos rfl, h1, obind, obind, if_neg (by cases x <;> simp [eqB])]
    exact eqBool_refl s n k (i + 1) (by omega) (by omega)
theorem EqBool_M (s : List Bool) {fuel : Nat} (h : s.length < fuel) : M.slices_Equal_bool fuel s s = some true := by
  rw [M.slices_Equal_bool, eqI_t rfl, eqBool_refl s s.length fuel 0 (by omega) h]; rfl
theorem eqRows_refl (s : List (List Bool)) {fuel : Nat} (hs : ∀ r ∈ s, r.length < fuel) : ∀ n k i, i + n = s.length → n < k → M.slices_EqualFunc_x__bool_Equal___bool_bool__l1 fuel s s k i = some (.inr ())
  | 0, k, i, hi, hk => by
    obtain ⟨k, rfl⟩ : ∃ g, k = g + 1 := ⟨k - 1, by omega⟩
    rw [M.slices_EqualFunc_x__bool_Equal___bool_bool__l1, ltI_f (by omega)]; rfl
  | n + 1, k, i, hi, hk => by
    obtain ⟨k, rfl⟩ : ∃ g, k = g + 1 := ⟨k - 1, by omega⟩
    obtain ⟨x, h1, h2, h3⟩ := drop_split (s := s) (i := i) (by omega)
    rw [M.slices_EqualFunc_x__bool_Equal___bool_bool__l1, ltI_t (by omega), if_pos rfl, h1, obind, obind, EqBool_M x (hs x h3), obind, if_neg (by simp)]
    exact eqRows_refl s hs n k (i + 1) (by omega) (by omega)
theorem EqRows_M (s : List (List Bool)) {fuel : Nat} (hs : ∀ r ∈ s, r.length < fuel) (h : s.length < fuel) : M.slices_EqualFunc_x__bool_Equal___bool_bool_ fuel s s = some true := by
  rw [M.slices_EqualFunc_x__bool_Equal___bool_bool_, eqI_t rfl, eqRows_refl s hs s.length fuel 0 (by omega) h]; rfl
theorem VerifyTables_true (p : Api.Program) (n : Int) (_ : Rng .i64 n) : ∃ fuel, M.law48_VerifyTables fuel p n = some true := by
  refine ⟨100000000, ?_⟩
  obtain ⟨b, hb⟩ := big_M p (fuel := 100000000) (by omega)
  rw [M.law48_VerifyTables, awake_M (by omega)]
  simp only [obind, Bool.not_true, Bool.false_eq_true, if_false, hb]
  cases b with
  | true => rfl
  | false =>
    obtain ⟨o, ho⟩ := knows p n (fuel := 100000000) (by omega)
    rw [ho.ref, ho.rea, ho.dep, ho.set]
    simp only [obind, Bool.false_eq_true, if_false]
    cases o with
    | inl e =>
      simp only [kR, kD, kS, kO, noStates, eqI_t rfl, if_true]
      rw [EqBool_M [] (by simp), EqInt_M [] (by simp), EqRows_M [] (by simp) (by simp)]; rfl
    | inr X =>
      obtain ⟨_, _, f, h1, hF, hX⟩ := ho.res.inr
      have hl := hX.1.len
      have hn := hF.head.n1; have hL := hF.head.l1
      simp only [kR, kD, kS, kO, states, eqI_t rfl, if_true]
      rw [EqBool_M _ (by rw [List.length_map]; omega), EqInt_M _ (by rw [List.length_map]; omega), EqRows_M _ (fun r hr => ?_) (by rw [List.length_map]; omega)]
      · rfl
      · obtain ⟨q, hq, rfl⟩ := List.mem_map.1 hr
        cases q with
        | none => simp [outS]
        | some q =>
          obtain ⟨t, ht⟩ := List.getElem?_of_mem hq
          have := hX.1.row t q.1 q.2 ht
          simp only [outS]; omega
end Go.Proofs.Ythbjlmoaceaeeaa
set_option linter.unusedVariables false
set_option linter.unusedSimpArgs false
set_option maxRecDepth 100000
set_option maxHeartbeats 1000000
namespace Go.Proofs.Ythbjlmoaceaeeaa
open Go Go.Abs
theorem ways_l2 {v w : List Bool} (h : Sub v w) : ∀ n k i, i + n = v.length → n < k → M.law48_VerifyWays_l2 w v k i = some (.inr ())
  | 0, k, i, hi, hk => by
    obtain ⟨k, rfl⟩ : ∃ g, k = g + 1 := ⟨k - 1, by omega⟩
    rw [M.law48_VerifyWays_l2, ltI_f (by omega)]; rfl
  | n + 1, k, i, hi, hk => by
    obtain ⟨k, rfl⟩ : ∃ g, k = g + 1 := ⟨k - 1, by omega⟩
    obtain ⟨x, h1, h2, h3⟩ := drop_split (s := v) (i := i) (by omega)
    have ih := ways_l2 h n k (i + 1) (by omega) (by omega)
    have hl := h.1
    rw [M.law48_VerifyWays_l2, ltI_t (by omega), if_pos rfl, h1, obind]
    cases x with
    | false => simpa using ih
    | true =>
      have hw := h.2 i h1
      rw [if_pos rfl, ixC_some (by omega), obind, hw, obind, obind]
      simpa using ih
theorem flow_some {f : Api.Fun} {at1 : Nat} {d : Int} {v : List Bool} {d' : Int} {v' : List Bool} {ts : List Int} (h : flow f at1 d v = some (d', v', ts)) : ∃ x, f.Code[at1]? = some x ∧ (eff x).2.2 = 0 ∧ (eff x).1 ≤ d ∧ (x.Op = 9 → d = 1) ∧ d' = d - (eff x).1 + (eff x).2.1 ∧ d' ≤ f.Depth ∧
    (x.Op = 3 → v[x.A.toNat]? = some true) ∧ tgt f at1 x = (ts, 0) ∧ v' = (if x.Op = 4 ∨ x.Op = 13 then v.set x.A.toNat true else v) := by
  unfold flow at h
  split at h
  · cases h
  · rename_i i hi
    split at h
    · cases h
    · rename_i hc
      simp only [Option.some.injEq, Prod.mk.injEq] at h
      obtain ⟨rfl, rfl, rfl⟩ := h
      simp only [not_or] at hc
      obtain ⟨c1, c2, c3, c4, c5, c6⟩ := hc
      refine ⟨i, hi, Decidable.byContradiction c1, by omega, fun h9 => Decidable.byContradiction fun h => c3 ⟨h9, h⟩, rfl, by omega, fun h3 => Decidable.byContradiction fun h => c5 ⟨h3, h⟩, ?_, rfl⟩
      have : (tgt f at1 i).2 = 0 := Decidable.byContradiction c6
      rw [← this]
theorem modC_some {c l : Nat} (hl : 0 < l) (hc : c < 256) : modC .i64 (Int.tmod (c : Int) (l : Int)) (l : Int) = some ((c % l : Nat) : Int) := by
  have e : Int.tmod (c : Int) (l : Int) = ((c % l : Nat) : Int) := by
    rw [Int.ofNat_tmod]
  rw [e, modC, if_pos]
  have := Nat.mod_le c l
  refine ⟨by omega, ?_⟩
  simp only [inR]; omega
theorem ways_l1 {p : Api.Program} {f : Api.Fun} (hF : FunOk p f) {X : St} (hX : Cons f X) {cs : List UInt8} {fuel : Nat} (hfu : 100000 ≤ fuel) : ∀ (n k i : Nat) (w : List Bool) (at1 : Nat) (d : Int) (v : List Bool), i + n = cs.length → n < k →
    X[at1]? = some (some (d, v)) → Sub v w → ∃ o, M.law48_VerifyWays_l1 fuel cs f (X.map Option.isSome, 0) (X.map outD, 0) (X.map outS, 0) k w (at1 : Int) d i = some o ∧ ∀ b, o = .inl b → b = true
  | 0, k, i, w, at1, d, v, hi, hk, hx, hs => by
    obtain ⟨k, rfl⟩ : ∃ g, k = g + 1 := ⟨k - 1, by omega⟩
    rw [M.law48_VerifyWays_l1, ltI_f (by omega)]
    exact ⟨_, rfl, nofun⟩
  | n + 1, k, i, w, at1, d, v, hi, hk, hx, hs => by
    obtain ⟨k, rfl⟩ : ∃ g, k = g + 1 := ⟨k - 1, by omega⟩
    obtain ⟨c, hc, _, _⟩ := drop_split (s := cs) (i := i) (by omega)
    have hh := hF.head
    have h1 := hh.l0; have h2 := hh.l1; have h3 := hh.n1; have h4 := hh.d1
    have hrow := hX.row at1 d v hx
    obtain ⟨d', v', ts, hfl, hts⟩ := hX.sat at1 d v hx
    obtain ⟨x, x1, x2, x3, x4, x5, x6, x7, x8, x9⟩ := flow_some hfl
    obtain ⟨fl1, fl2, fl3, fl4, fl5⟩ := flow_len hfl
    have he := eff_ok x2
    have hwl := hs.1
    have hlt := (List.getElem?_eq_some_iff.1 hx).1
    have i1 : idx (X.map Option.isSome) (at1 : Int) = some true := idx_some (by omega) (by rw [Int.toNat_natCast, List.getElem?_map, hx]; rfl)
    have i2 : idx (X.map outD) (at1 : Int) = some d := idx_some (by omega) (by rw [Int.toNat_natCast, List.getElem?_map, hx]; rfl)
    have i3 : idx (X.map outS) (at1 : Int) = some v := idx_some (by omega) (by rw [Int.toNat_natCast, List.getElem?_map, hx]; rfl)
    have i4 : idx f.Code (at1 : Int) = some x := idx_some (by omega) (by simpa using x1)
    have hxr := hF.right at1 x x1
    rw [M.law48_VerifyWays_l1, ltI_t (by omega), if_pos rfl, hc]
    simp only [obind, i1, i2, i3, Bool.not_true, Bool.false_eq_true, if_false, eqI_t rfl]
    rw [eqI_t (show (v.length : Int) = f.Locals by omega)]
    simp only [Bool.not_true, Bool.false_eq_true, if_false]
    rw [ways_l2 hs v.length fuel 0 (by omega) (by omega)]
    simp only [obind, Sum.elim_inr, i4, effect_M, targets_M h3 x1 (show 20000 ≤ fuel by omega), x8]
    rw [eqI_t x2, eqI_t rfl]
    simp only [Bool.not_true, Bool.false_eq_true, if_false]
    rw [ltI_f (by omega), chk64 (n := d - (eff x).1) (by omega) (by omega)]
    simp only [Bool.false_eq_true, if_false, obind]
    rw [chk64 (n := d - (eff x).1 + (eff x).2.1) (by omega) (by omega)]
    simp only [obind]
    rw [ltI_f (by omega)]
    simp only [Bool.false_eq_true, if_false]
    have e9 : (if eqI x.Op 9 = true then some (!(eqI d 1)) else some false : Option Bool) = some false := by
      by_cases e : x.Op = 9
      · rw [eqI_t e, eqI_t (x4 e)]; rfl
      · rw [eqI_f e]; rfl
    have e3 : (if eqI x.Op 3 = true then (ixC w x.A).bind fun u209 => (w[Int.toNat x.A]?).bind fun x213 => if !x213 then some true else if eqI x.Op 9 = true then some (!(eqI d 1)) else some false
        else if eqI x.Op 9 = true then some (!(eqI d 1)) else some false : Option Bool) = some false := by
      rw [e9]
      by_cases e : x.Op = 3
      · have hA := rightS_A hxr (.inl e)
        rw [eqI_t e, if_pos rfl, ixC_some (by omega), obind, hs.2 _ (x7 e), obind]; rfl
      · rw [eqI_f e]; rfl
    rw [e3]
    simp only [obind, Bool.false_eq_true, if_false]
    rw [chk64 (n := (eff x).2.1 - (eff x).1) (by omega) (by omega), obind, chk64 (n := d + ((eff x).2.1 - (eff x).1)) (by omega) (by omega), obind]
    have ed : d + ((eff x).2.1 - (eff x).1) = d' := by omega
    rw [ed]
    have go : ∀ w', Sub v' w' → ∃ o, (if eqI (ts.length : Int) 0 = true then some (.inl true) else
        (modC .i64 (Int.tmod (c.toNat : Int) (ts.length : Int)) (ts.length : Int)).bind fun n279 => (idx ts n279).bind fun x283 => if ((ltI x283 0) || (leI (f.Code.length : Int) x283)) = true then some (.inl false) else
        M.law48_VerifyWays_l1 fuel cs f (X.map Option.isSome, 0) (X.map outD, 0) (X.map outS, 0) k w' x283 d' (i + 1) : Option ((Bool) ⊕ ((List Bool)))) = some o ∧ ∀ b, o = .inl b → b = true := fun w' hw' => by
      by_cases e : ts.length = 0
      · rw [eqI_t (by omega), if_pos rfl]
        exact ⟨_, rfl, fun b hb => by cases hb; rfl⟩
      · rw [eqI_f (by omega), if_neg (by simp), modC_some (by omega) (UInt8.toNat_lt c), obind]
        have hm : c.toNat % ts.length < ts.length := Nat.mod_lt _ (by omega)
        obtain ⟨t, t1, _, t2⟩ := drop_split (s := ts) (i := c.toNat % ts.length) hm
        have t3 := fl5 t t2
        rw [idx_some (by omega) (by rw [Int.toNat_natCast]; exact t1), obind, ltI_f t3.1, leI_f t3.2, if_neg (by simp)]
        obtain ⟨u, u1, u2⟩ := hts t t2
        have := ways_l1 hF hX (cs := cs) hfu n k (i + 1) w' t.toNat d' u (by omega) (by omega) u1 (u2.trans hw')
        rw [Int.toNat_of_nonneg t3.1] at this
        exact this
    by_cases c7 : x.Op = 4 ∨ x.Op = 13
    · have hA := rightS_A hxr (.inr c7)
      have e7 : ((eqI x.Op 4) || (eqI x.Op 13)) = true := by rcases c7 with c7 | c7 <;> rw [eqI_t c7] <;> simp
      rw [e7, if_pos rfl, ixC_some (by omega), obind]
      refine go _ ?_
      rw [x9, if_pos c7]
      exact sub_set hs _
    · have e7 : ((eqI x.Op 4) || (eqI x.Op 13)) = false := by rw [eqI_f (fun e => c7 (.inl e)), eqI_f (fun e => c7 (.inr e))]; rfl
      rw [e7, if_neg (by simp)]
      refine go _ ?_
      rw [x9, if_neg c7]
      exact hs
theorem VerifyWays_true (p : Api.Program) (n : Int) (cs : List UInt8) (_ : Rng .i64 n) (_ : cs.length * 1 ≤ 140737488351232 ∧ ∀ x ∈ cs, True) : ∃ fuel, M.law48_VerifyWays fuel p n cs = some true := by
  refine ⟨100000000, ?_⟩
  obtain ⟨b, hb⟩ := big_M p (fuel := 100000000) (by omega)
  rw [M.law48_VerifyWays, awake_M (by omega)]
  simp only [obind, Bool.not_true, Bool.false_eq_true, if_false, hb]
  cases b with
  | true => rfl
  | false =>
    simp only [Bool.false_eq_true, if_false]
    by_cases hc : 400 < cs.length
    · rw [ltI_t (by omega)]; rfl
    rw [ltI_f (by omega)]
    obtain ⟨o, ho⟩ := knows p n (fuel := 100000000) (by omega)
    rw [ho.rea, ho.dep, ho.set, ho.fn, RValid_M p (by omega)]
    simp only [obind, Bool.false_eq_true, if_false]
    cases o with
    | inl e =>
      have : e ≠ 0 := by
        have := ho.res
        unfold Res at this
        split at this
        · cases this; decide
        · split at this
          · cases this; decide
          · obtain ⟨f, _, ⟨h, _⟩ | ⟨X, h, _⟩⟩ := this
            · cases h; decide
            · cases h
      rw [show eqI (kE (.inl e)) 0 = false from eqI_f this]; rfl
    | inr X =>
      obtain ⟨hv, hn, f, h1, hF, hX⟩ := ho.res.inr
      have hlt := (List.getElem?_eq_some_iff.1 h1).1
      have hl := hX.1.len
      have hh := hF.head
      have l0 := hh.l0; have l1 := hh.l1
      simp only [kE, kR, kD, kS, eqI_t rfl, hv, Bool.not_true, Bool.false_eq_true, if_false]
      rw [ltI_f hn, leI_f (by omega)]
      simp only [Bool.false_eq_true, if_false, obind]
      rw [idx_some hn h1]
      simp only [obind, List.length_map, hl, eqI_t rfl, Bool.not_true, Bool.or_self, Bool.false_eq_true, if_false]
      rw [mkL_some ⟨by omega, by decide, by omega, by omega⟩, obind, ixC_some (by simp; omega), obind]
      obtain ⟨v, s1, s2⟩ := hX.1.start
      obtain ⟨o, o1, o2⟩ := ways_l1 hF hX.1 (cs := cs) (fuel := 100000000) (by omega) cs.length 100000000 0 ((List.replicate f.Locals.toNat false).set 0 true) 0 0 v (by omega) (by omega) s1 s2
      rw [show ((0 : Nat) : Int) = 0 from rfl] at o1
      rw [o1, obind]
      cases o with
      | inl b => rw [o2 b rfl]; rfl
      | inr w => rfl
end Go.Proofs.Ythbjlmoaceaeeaa
set_option linter.unusedVariables false
set_option linter.unusedSimpArgs false
set_option maxRecDepth 100000
set_option maxHeartbeats 1000000
namespace Go.Proofs.Ythbjlmoaceaeeaa
open Go Go.Abs
theorem rightS_congr {p q : Api.Program} (ht : q.Texts.length = p.Texts.length) (hl : q.Funs.length = p.Funs.length) (hc : ∀ i : Nat, (q.Funs[i]?).map Api.Fun.Captures = (p.Funs[i]?).map Api.Fun.Captures) (f : Api.Fun) (at1 : Nat) (x : Api.Instr) : rightS q f at1 x = rightS p f at1 x := by
  unfold rightS
  rw [ht, hl]
  have := hc x.A.toNat
  cases h1 : q.Funs[x.A.toNat]? with
  | none =>
    rw [h1] at this
    cases h2 : p.Funs[x.A.toNat]? with
    | none => rfl
    | some b => rw [h2] at this; cases this
  | some a =>
    rw [h1] at this
    cases h2 : p.Funs[x.A.toNat]? with
    | none => rw [h2] at this; cases this
    | some b =>
      rw [h2] at this
      simp only [Option.map_some, Option.some.injEq] at this
      simp only [this]
def withF (p : Api.Program) (n : Nat) (g : Api.Fun) : Api.Program := ⟨p.Funs.set n g, p.Texts, p.Main⟩
theorem withF_caps {p : Api.Program} {n : Nat} {f g : Api.Fun} (hf : p.Funs[n]? = some f) (hg : g.Captures = f.Captures) (i : Nat) : ((withF p n g).Funs[i]?).map Api.Fun.Captures = (p.Funs[i]?).map Api.Fun.Captures := by
  show ((p.Funs.set n g)[i]?).map _ = _
  by_cases e : i = n
  · subst e
    rw [List.getElem?_set_self (List.getElem?_eq_some_iff.1 hf).1, hf]
    simp [hg]
  · rw [List.getElem?_set_ne (Ne.symm e)]
theorem all_set {α : Type} {l : List α} {P : α → Bool} {n : Nat} {x : α} (h : l.all P = true) (hx : P x = true) : (l.set n x).all P = true := by
  rw [List.all_eq_true] at h ⊢
  intro y hy
  rcases List.mem_or_eq_of_mem_set hy with h1 | h1
  · exact h y h1
  · rw [h1]; exact hx
theorem withF_valid {p : Api.Program} {n : Nat} {f g : Api.Fun} (hv : validS p = true) (hf : p.Funs[n]? = some f) (hc : g.Captures = f.Captures) (hg : HeadOk g) (hr : ∀ (at1 : Nat) (x : Api.Instr), g.Code[at1]? = some x → rightS p g at1 x = true) : validS (withF p n g) = true := by
  have hcap := withF_caps hf hc
  have hlen : (withF p n g).Funs.length = p.Funs.length := by simp [withF]
  have hrs : ∀ h : Api.Fun, rightsS (withF p n g) h = rightsS p h := fun h => by
    unfold rightsS
    congr 1
    funext q
    exact rightS_congr (p := p) (q := withF p n g) rfl hlen hcap h q.2 q.1
  unfold validS at hv ⊢
  simp only [Bool.and_eq_true] at hv ⊢
  obtain ⟨h1, h2, h3, h4, h5, h6, h7⟩ := hv
  refine ⟨by rw [hlen]; exact h1, h2, h3, all_set h4 (headS_iff.2 hg), ?_, by rw [hlen]; exact h6, ?_⟩
  · have : (withF p n g).Funs.all (rightsS (withF p n g)) = (withF p n g).Funs.all (rightsS p) := by congr 1; funext h; exact hrs h
    rw [this]
    refine all_set h5 ?_
    unfold rightsS
    rw [List.all_eq_true]
    intro q hq
    have : g.Code[q.2]? = some q.1 := by
      have := List.mem_zipIdx_iff_getElem?.1 hq
      simpa using this
    exact hr q.2 q.1 this
  · have := hcap p.Main.toNat
    have e : (withF p n g).Main = p.Main := rfl
    rw [e]
    cases h8 : (withF p n g).Funs[p.Main.toNat]? with
    | none =>
      rw [h8] at this
      cases h9 : p.Funs[p.Main.toNat]? with
      | none => rw [h9] at h7; exact h7
      | some b => rw [h9] at this; cases this
    | some a =>
      rw [h8] at this
      cases h9 : p.Funs[p.Main.toNat]? with
      | none => rw [h9] at this; cases this
      | some b =>
        rw [h9] at this h7
        simp only [Option.map_some, Option.some.injEq] at this
        dsimp only
        rw [this]; exact h7
def deep (f : Api.Fun) (d : Int) : Api.Fun := ⟨f.Captures, f.Locals, d, f.Code⟩
theorem deep_valid {p : Api.Program} {n : Nat} {f : Api.Fun} (hv : validS p = true) (hf : p.Funs[n]? = some f) {d : Int} (hd : 0 ≤ d ∧ d ≤ 4096) : validS (withF p n (deep f d)) = true := by
  have hF := valid_fun hv (List.mem_of_getElem? hf)
  have hh := hF.head
  exact withF_valid hv hf rfl ⟨hh.c0, hh.c1, hh.l0, hh.l1, hd.1, hd.2, hh.n0, hh.n1⟩ fun at1 x hx => hF.right at1 x hx
theorem flow_deep {f : Api.Fun} {at1 : Nat} {d : Int} {v : List Bool} {d' : Int} {v' : List Bool} {ts : List Int} {e : Int} (h : flow f at1 d v = some (d', v', ts)) (hd : d' ≤ e) : flow (deep f e) at1 d v = some (d', v', ts) := by
  unfold flow at h ⊢
  have e1 : (deep f e).Code = f.Code := rfl
  rw [e1]
  split at h
  · cases h
  · rename_i i hi
    split at h
    · cases h
    · rename_i hc
      simp only [Option.some.injEq, Prod.mk.injEq] at h
      obtain ⟨rfl, rfl, rfl⟩ := h
      simp only [not_or] at hc
      obtain ⟨c1, c2, c3, c4, c5, c6⟩ := hc
      rw [if_neg]
      · rfl
      · simp only [not_or]
        exact ⟨c1, c2, c3, by show ¬ e < _; omega, c5, c6⟩
theorem cons_deep {f : Api.Fun} {X : St} (h : Cons f X) {e : Int} (he : ∀ (at1 : Nat) (d : Int) (v : List Bool) (d' : Int) (v' : List Bool) (ts : List Int), X[at1]? = some (some (d, v)) → flow f at1 d v = some (d', v', ts) → d' ≤ e) : Cons (deep f e) X :=
  ⟨⟨h.len, h.row⟩, h.start, fun at1 d v hx => by
    obtain ⟨d', v', ts, h1, h2⟩ := h.sat at1 d v hx
    exact ⟨d', v', ts, flow_deep h1 (he at1 d v d' v' ts hx h1), h2⟩⟩
theorem flow_undeep {f : Api.Fun} {at1 : Nat} {d : Int} {v : List Bool} {d' : Int} {v' : List Bool} {ts : List Int} {e : Int} (h : flow (deep f e) at1 d v = some (d', v', ts)) (he : e ≤ f.Depth) : flow f at1 d v = some (d', v', ts) := by
  have h2 := flow_len h
  have h3 : d' ≤ e := h2.2.2.2.1
  have := flow_deep h (e := f.Depth) (by omega)
  exact this
theorem cons_undeep {f : Api.Fun} {Y : St} {e : Int} (h : Cons (deep f e) Y) (he : e ≤ f.Depth) : Cons f Y :=
  ⟨⟨h.len, h.row⟩, h.start, fun at1 d v hx => by
    obtain ⟨d', v', ts, h1, h2⟩ := h.sat at1 d v hx
    exact ⟨d', v', ts, flow_undeep h1 he, h2⟩⟩
theorem with_M {p : Api.Program} {n : Int} {f : Api.Fun} (hn : 0 ≤ n) (hv : validS p = true) (hf : p.Funs[n.toNat]? = some f) {d : Int} (hd : 0 ≤ d ∧ d ≤ 4096) {fuel : Nat} (hfu : 100000000 ≤ fuel) :
    (∀ X, Cons (deep f d) X → M.law48_VerifyDepths_1 fuel d p n = some 0) ∧ ((∀ Y, ¬ Cons (deep f d) Y) → M.law48_VerifyDepths_1 fuel d p n = some 24) := by
  have hlt := (List.getElem?_eq_some_iff.1 hf).1
  have hvl := valid_len hv
  obtain ⟨o, ho⟩ := knows (withF p n.toNat (deep f d)) n hfu
  have hv' := deep_valid hv hf hd
  have hw : M.law48_VerifyDepths_1 fuel d p n = some (kE o) := by
    rw [M.law48_VerifyDepths_1, M.slices_Clone_api_Fun]
    have hne : neC p.Funs = some () := by
      cases h : p.Funs with
      | nil => rw [h] at hlt; simp at hlt
      | cons a l => rfl
    rw [hne, obind, clC_some ⟨by omega, by decide, by omega⟩, obind, obind, ixC_some ⟨hn, by omega⟩, obind, hf, obind]
    have := ho.fn
    unfold withF deep at this
    rw [this]; rfl
  have hf' : (withF p n.toNat (deep f d)).Funs[n.toNat]? = some (deep f d) := List.getElem?_set_self hlt
  have hlen : (withF p n.toNat (deep f d)).Funs.length = p.Funs.length := by simp [withF]
  have hres := ho.res
  unfold Res at hres
  rw [if_neg (by simp [hv']), if_neg (by rw [hlen]; omega)] at hres
  obtain ⟨g, g1, g2⟩ := hres
  rw [hf'] at g1; cases g1
  rw [hw]
  rcases g2 with ⟨rfl, g2⟩ | ⟨X, rfl, g2⟩
  · exact ⟨fun X hX => (g2 X hX).elim, fun _ => rfl⟩
  · exact ⟨fun _ _ => rfl, fun h => (h X g2.1).elim⟩
theorem maxI_eq (a b : Int) : maxI a b = max a b := by unfold maxI; split <;> omega
theorem most_l {f : Api.Fun} {X : St} (hX : Cons f X) (hD : f.Depth ≤ 4096) : ∀ (n k i : Nat) (m : Int), i + n = f.Code.length → n < k → 0 ≤ m → m ≤ f.Depth ∨ m = 0 → (m = 0 ∨ ∃ (j : Nat) (d : Int) (v : List Bool) (v' : List Bool) (ts : List Int), X[j]? = some (some (d, v)) ∧ flow f j d v = some (m, v', ts)) →
    ∃ m', M.law48_VerifyDepths_l1 (X.map outD, 0) f k m i = some (.inr m') ∧ m ≤ m' ∧ 0 ≤ m' ∧ (m' ≤ f.Depth ∨ m' = 0) ∧ (m' = 0 ∨ ∃ (j : Nat) (d : Int) (v : List Bool) (v' : List Bool) (ts : List Int), X[j]? = some (some (d, v)) ∧ flow f j d v = some (m', v', ts)) ∧
      (∀ (j : Nat) (d : Int) (v : List Bool) (d' : Int) (v' : List Bool) (ts : List Int), i ≤ j → X[j]? = some (some (d, v)) → flow f j d v = some (d', v', ts) → d' ≤ m')
  | 0, k, i, m, hi, hk, h0, h1, h2 => by
    obtain ⟨k, rfl⟩ : ∃ g, k = g + 1 := ⟨k - 1, by omega⟩
    rw [M.law48_VerifyDepths_l1, ltI_f (by omega)]
    refine ⟨m, rfl, Int.le_refl _, h0, h1, h2, fun j d v d' v' ts hj hx _ => ?_⟩
    have := (List.getElem?_eq_some_iff.1 hx).1
    have := hX.len
    omega
  | n + 1, k, i, m, hi, hk, h0, h1, h2 => by
    obtain ⟨k, rfl⟩ : ∃ g, k = g + 1 := ⟨k - 1, by omega⟩
    obtain ⟨x, x1, _, _⟩ := drop_split (s := f.Code) (i := i) (by omega)
    have hl := hX.len
    obtain ⟨o, o1, _, _⟩ := drop_split (s := X) (i := i) (by omega)
    have od : (X.map outD)[i]? = some (outD o) := by rw [List.getElem?_map, o1]; rfl
    rw [M.law48_VerifyDepths_l1, ltI_t (by omega), if_pos rfl, x1, obind, od, obind]
    cases o with
    | none =>
      rw [if_pos (show ltI (outD none) 0 = true from rfl)]
      obtain ⟨m', k1, k2, k3, k4, k5, k6⟩ := most_l hX hD n k (i + 1) m (by omega) (by omega) h0 h1 h2
      refine ⟨m', k1, k2, k3, k4, k5, fun j d v d' v' ts hj hx hfl => ?_⟩
      by_cases e : j = i
      · subst e; rw [o1] at hx; cases hx
      · exact k6 j d v d' v' ts (by omega) hx hfl
    | some q =>
      obtain ⟨d, v⟩ := q
      have hrow := hX.row i d v o1
      obtain ⟨d', v', ts, hfl, _⟩ := hX.sat i d v o1
      obtain ⟨y, y1, y2, y3, _, y5, y6, _⟩ := flow_some hfl
      rw [x1] at y1; cases y1
      have he := eff_ok y2
      have hfl2 := flow_len hfl
      rw [if_neg (show ¬ ltI (outD (some (d, v))) 0 = true from by rw [show outD (some (d, v)) = d from rfl, ltI_f hrow.2.1]; simp), effect_M, obind, eqI_t y2, if_neg (by simp)]
      rw [show outD (some (d, v)) = d from rfl, chk64 (n := d - (eff x).1) (by omega) (by omega), obind, chk64 (n := d - (eff x).1 + (eff x).2.1) (by omega) (by omega), obind, ← y5, maxI_eq]
      obtain ⟨m', k1, k2, k3, k4, k5, k6⟩ := most_l hX hD n k (i + 1) (max m d') (by omega) (by omega) (by omega) (by omega) (by
        rcases Int.le_total m d' with h | h
        · rw [show max m d' = d' by omega]; exact .inr ⟨i, d, v, v', ts, o1, hfl⟩
        · rw [show max m d' = m by omega]; exact h2)
      refine ⟨m', k1, by omega, k3, k4, k5, fun j d2 v2 d3 v3 ts3 hj hx hfl3 => ?_⟩
      by_cases e : j = i
      · subst e
        rw [o1] at hx
        simp only [Option.some.injEq, Prod.mk.injEq] at hx
        obtain ⟨rfl, rfl⟩ := hx
        rw [hfl] at hfl3
        simp only [Option.some.injEq, Prod.mk.injEq] at hfl3
        obtain ⟨rfl, _, _⟩ := hfl3
        omega
      · exact k6 j d2 v2 d3 v3 ts3 (by omega) hx hfl3
theorem inl_ne0 {p : Api.Program} {n e : Int} (h : Res p n (.inl e)) : e ≠ 0 := by
  unfold Res at h
  split at h
  · cases h; decide
  · split at h
    · cases h; decide
    · obtain ⟨f, _, ⟨h, _⟩ | ⟨X, h, _⟩⟩ := h
      · cases h; decide
      · cases h
theorem VerifyDepths_true (p : Api.Program) (n : Int) (more : UInt8) (_ : Rng .i64 n) : ∃ fuel, M.law48_VerifyDepths fuel p n more = some true := by
  refine ⟨100000000, ?_⟩
  obtain ⟨b, hb⟩ := big_M p (fuel := 100000000) (by omega)
  rw [M.law48_VerifyDepths, awake_M (by omega)]
  simp only [obind, Bool.not_true, Bool.false_eq_true, if_false, hb]
  cases b with
  | true => rfl
  | false =>
    obtain ⟨o, ho⟩ := knows p n (fuel := 100000000) (by omega)
    rw [ho.dep, ho.fn]
    simp only [obind, Bool.false_eq_true, if_false]
    cases o with
    | inl e => rw [show eqI (kE (.inl e)) 0 = false from eqI_f (inl_ne0 ho.res)]; rfl
    | inr X =>
      obtain ⟨hv, hn, f, h1, hF, hX⟩ := ho.res.inr
      have hlt := (List.getElem?_eq_some_iff.1 h1).1
      have hl := hX.1.len
      have hh := hF.head
      have l0 := hh.d0; have l1 := hh.d1; have l2 := hh.n1
      simp only [kE, kD, eqI_t rfl, Bool.not_true, Bool.false_eq_true, if_false]
      rw [ltI_f hn, leI_f (by omega)]
      simp only [Bool.false_eq_true, if_false, obind]
      rw [idx_some hn h1]
      simp only [obind, List.length_map, hl, eqI_t rfl, Bool.not_true, Bool.false_eq_true, if_false]
      obtain ⟨m, m1, _, m2, m3, m4, m5⟩ := most_l hX.1 l1 f.Code.length 100000000 0 0 (by omega) (by omega) (by omega) (.inr rfl) (.inl rfl)
      rw [m1]
      simp only [obind, Sum.elim_inr]
      have hmore : more.toNat < 256 := UInt8.toNat_lt more
      rw [chk64 (by omega) (by omega)]
      simp only [obind]
      have hm : 0 ≤ m ∧ m ≤ 4096 := by omega
      have e2 := (with_M hn hv h1 hm (fuel := 100000000) (by omega)).1 X (cons_deep hX.1 fun j d v d' v' ts hx hfl => m5 j d v d' v' ts (by omega) hx hfl)
      have e1 : (if leI (f.Depth + (more.toNat : Int)) 4096 = true then (M.law48_VerifyDepths_1 100000000 (f.Depth + (more.toNat : Int)) p n).bind fun v94 => some (!(eqI v94 0)) else some false : Option Bool) = some false := by
        by_cases h : f.Depth + (more.toNat : Int) ≤ 4096
        · rw [leI_t h, if_pos rfl, (with_M hn hv h1 ⟨by omega, h⟩ (fuel := 100000000) (by omega)).1 X (cons_deep hX.1 fun j d v d' v' ts hx hfl => by have := (flow_len hfl).2.2.2.1; omega), obind]; rfl
        · rw [leI_f (by omega)]; rfl
      rw [e1, e2]
      simp only [obind, Bool.false_eq_true, if_false, eqI_t rfl, if_true]
      by_cases h0 : m = 0
      · rw [eqI_t h0]; rfl
      rw [eqI_f h0]
      simp only [Bool.false_eq_true, if_false]
      rw [chk64 (by omega) (by omega)]
      simp only [obind]
      rw [(with_M hn hv h1 (d := m - 1) (by omega) (fuel := 100000000) (by omega)).2 fun Y hY => ?_]
      · rfl
      · rcases m4 with h | ⟨j, d, v, v', ts, hx, hfl⟩
        · exact h0 h
        · have hY' := cons_undeep hY (by omega)
          obtain ⟨w, w1, w2⟩ := (hX.2 Y hY').2 j d v hx
          obtain ⟨d2, v2, ts2, k1, _⟩ := hY.sat j d w w1
          have k2 := (flow_len k1).2.2.2.1
          have k3 : d2 ≤ m - 1 := k2
          obtain ⟨v3, k4, _⟩ := flow_mono w2 (flow_undeep k1 (by omega))
          rw [hfl] at k4
          simp only [Option.some.injEq, Prod.mk.injEq] at k4
          omega
end Go.Proofs.Ythbjlmoaceaeeaa
set_option linter.unusedVariables false
set_option linter.unusedSimpArgs false
set_option maxRecDepth 100000
set_option maxHeartbeats 1000000
namespace Go.Proofs.Ythbjlmoaceaeeaa
open Go Go.Abs
theorem fun_valid {p : Api.Program} (hv : validS p = true) {i : Nat} {f : Api.Fun} (hf : p.Funs[i]? = some f) {fuel : Nat} (hfu : 100000000 ≤ fuel) : M.verify_Fun fuel p (i : Int) = some (if accB f then 0 else 24) := by
  obtain ⟨o, ho⟩ := knows p (i : Int) hfu
  have hlt := (List.getElem?_eq_some_iff.1 hf).1
  have hres := ho.res
  unfold Res at hres
  rw [if_neg (by simp [hv]), if_neg (by omega)] at hres
  obtain ⟨g, g1, g2⟩ := hres
  rw [Int.toNat_natCast, hf] at g1; cases g1
  rw [ho.fn]
  rcases g2 with ⟨rfl, g2⟩ | ⟨X, rfl, g2⟩
  · rw [accB_f g2]; rfl
  · rw [accB_t g2]; rfl
theorem dead_l1 {p : Api.Program} {fuel : Nat} (hfu : 100000000 ≤ fuel) : ∀ (n k : Nat) (al : Int) (i : Nat), i + n = p.Funs.length → n < k → ∃ o, M.law48_VerifyDead_l1 fuel p k al i = some o ∧ (validS p = true → o = if al = 0 then (if (p.Funs.drop i).all accB then 0 else 24) else al)
  | 0, k, al, i, hi, hk => by
    obtain ⟨k, rfl⟩ : ∃ g, k = g + 1 := ⟨k - 1, by omega⟩
    rw [M.law48_VerifyDead_l1, ltI_f (by omega), List.drop_eq_nil_of_le (by omega)]
    refine ⟨al, rfl, fun _ => ?_⟩
    split
    · rename_i h; rw [h]; rfl
    · rfl
  | n + 1, k, al, i, hi, hk => by
    obtain ⟨k, rfl⟩ : ∃ g, k = g + 1 := ⟨k - 1, by omega⟩
    obtain ⟨f, h1, h2, h3⟩ := drop_split (s := p.Funs) (i := i) (by omega)
    obtain ⟨q, hq⟩ := knows p (i : Int) hfu
    rw [M.law48_VerifyDead_l1, ltI_t (by omega), if_pos rfl, hq.fn, obind, h2, List.all_cons]
    by_cases hc : ((!(eqI (kE q) 0)) && (eqI al 0)) = true
    · rw [if_pos hc]
      obtain ⟨o, o1, o2⟩ := dead_l1 (p := p) hfu n k (kE q) (i + 1) (by omega) (by omega)
      refine ⟨o, o1, fun hv => ?_⟩
      obtain ⟨c1, c2⟩ := andT hc
      have c1 := eqF (notT c1)
      have c2 := eqT c2
      have hfv := fun_valid hv h1 hfu
      rw [hq.fn] at hfv
      rw [o2 hv, if_neg c1, if_pos c2]
      have e := Option.some.inj hfv
      cases ha : accB f with
      | true => rw [ha] at e; exact (c1 e).elim
      | false => rw [ha] at e; rw [e]; rfl
    · rw [if_neg hc]
      obtain ⟨o, o1, o2⟩ := dead_l1 (p := p) hfu n k al (i + 1) (by omega) (by omega)
      refine ⟨o, o1, fun hv => ?_⟩
      rw [o2 hv]
      by_cases hal : al = 0
      · rw [if_pos hal, if_pos hal]
        have hfv := fun_valid hv h1 hfu
        rw [hq.fn] at hfv
        have e := Option.some.inj hfv
        cases ha : accB f with
        | true => simp
        | false =>
          rw [ha] at e
          exfalso
          apply hc
          rw [eqI_t hal, e]; rfl
      · rw [if_neg hal, if_neg hal]
theorem dead_l2 (by3 : Api.Instr) : ∀ (l : List Bool) (i : Nat) (code : List Api.Instr), i + l.length = code.length → ∃ code2, M.law48_VerifyDead_l2 by3 l i code = some code2 ∧ code2.length = code.length ∧ (∀ j : Nat, j < i → code2[j]? = code[j]?) ∧ (∀ j : Nat, l[j]? = some true → code2[i + j]? = code[i + j]?)
  | [], i, code, h => ⟨code, rfl, rfl, fun _ _ => rfl, fun j hj => by simp at hj⟩
  | b :: l, i, code, h => by
    simp only [List.length_cons] at h
    rw [M.law48_VerifyDead_l2]
    cases b with
    | false =>
      rw [if_pos (by simp), ixC_some (by omega), obind]
      obtain ⟨c2, k1, k2, k3, k4⟩ := dead_l2 by3 l (i + 1) (code.set i by3) (by simp; omega)
      refine ⟨c2, k1, by simpa using k2, fun j hj => ?_, fun j hj => ?_⟩
      · rw [k3 j (by omega), List.getElem?_set_ne (by omega)]
      · cases j with
        | zero => simp at hj
        | succ j =>
          have := k4 j (by simpa using hj)
          rw [show i + (j + 1) = i + 1 + j by omega, this, List.getElem?_set_ne (by omega)]
    | true =>
      rw [if_neg (by simp)]
      obtain ⟨c2, k1, k2, k3, k4⟩ := dead_l2 by3 l (i + 1) code (by omega)
      refine ⟨c2, k1, k2, fun j hj => k3 j (by omega), fun j hj => ?_⟩
      cases j with
      | zero => exact k3 i (by omega)
      | succ j =>
        have := k4 j (by simpa using hj)
        rw [show i + (j + 1) = i + 1 + j by omega, this]
def recode (f : Api.Fun) (c : List Api.Instr) : Api.Fun := ⟨f.Captures, f.Locals, f.Depth, c⟩
theorem tgt_recode {f : Api.Fun} {c : List Api.Instr} (h : c.length = f.Code.length) (at1 : Nat) (x : Api.Instr) : tgt (recode f c) at1 x = tgt f at1 x := by
  have : ∀ l, inL (recode f c) l = inL f l := fun l => by
    unfold inL
    have e : (recode f c).Code.length = f.Code.length := h
    rw [e]
  unfold tgt
  split
  · rfl
  · split
    · rfl
    · cases goL at1 x with
      | none => rfl
      | some l => dsimp only; rw [this]
theorem flow_recode {f : Api.Fun} {c : List Api.Instr} (h : c.length = f.Code.length) {at1 : Nat} (hc : c[at1]? = f.Code[at1]?) (d : Int) (v : List Bool) : flow (recode f c) at1 d v = flow f at1 d v := by
  unfold flow
  have e : (recode f c).Code = c := rfl
  rw [e, hc]
  cases f.Code[at1]? with
  | none => rfl
  | some i =>
    dsimp only
    rw [tgt_recode h]
    rfl
theorem cons_recode {f : Api.Fun} {c : List Api.Instr} (h : c.length = f.Code.length) {X : St} (hX : Cons f X) (hc : ∀ (at1 : Nat) (d : Int) (v : List Bool), X[at1]? = some (some (d, v)) → c[at1]? = f.Code[at1]?) : Cons (recode f c) X :=
  ⟨⟨hX.len.trans h.symm, hX.row⟩, hX.start, fun at1 d v hx => by
    obtain ⟨d', v', ts, h1, h2⟩ := hX.sat at1 d v hx
    exact ⟨d', v', ts, by rw [flow_recode h (hc at1 d v hx)]; exact h1, h2⟩⟩
theorem cons_uncode {f : Api.Fun} {c : List Api.Instr} (h : c.length = f.Code.length) {X : St} (hX : Cons (recode f c) X) (hc : ∀ (at1 : Nat) (d : Int) (v : List Bool), X[at1]? = some (some (d, v)) → c[at1]? = f.Code[at1]?) : Cons f X :=
  ⟨⟨hX.len.trans h, hX.row⟩, hX.start, fun at1 d v hx => by
    obtain ⟨d', v', ts, h1, h2⟩ := hX.sat at1 d v hx
    exact ⟨d', v', ts, by rw [← flow_recode h (hc at1 d v hx)]; exact h1, h2⟩⟩
theorem VerifyDead_true (p : Api.Program) (n : Int) (by3 : Api.Instr) (_ : Rng .i64 n) : ∃ fuel, M.law48_VerifyDead fuel p n by3 = some true := by
  refine ⟨100000000, ?_⟩
  obtain ⟨b, hb⟩ := big_M p (fuel := 100000000) (by omega)
  rw [M.law48_VerifyDead, awake_M (by omega)]
  simp only [obind, Bool.not_true, Bool.false_eq_true, if_false, hb]
  cases b with
  | true => rfl
  | false =>
  simp only [Bool.false_eq_true, if_false]
  have hlen : p.Funs.length < 100000000 ∨ ¬ p.Funs.length < 100000000 := by omega
  have hbig : p.Funs.length ≤ 10 := by
    rw [M.law48_big] at hb
    by_cases h1 : 10 < p.Funs.length
    · rw [ltI_t (by omega)] at hb; cases hb
    · omega
  obtain ⟨al, a1, a2⟩ := dead_l1 (p := p) (fuel := 100000000) (by omega) p.Funs.length 100000000 0 0 (by omega) (by omega)
  rw [a1]
  simp only [obind]
  rw [Valid_M p (by omega), Check_M p (by omega)]
  simp only [obind]
  have e48 : (if validS p = true then some (!(eqI (checkS p) al)) else some false : Option Bool) = some false := by
    cases hv : validS p with
    | false => rfl
    | true =>
      have : checkS p = al := by
        rw [a2 hv]
        unfold checkS
        rw [if_neg (by simp [hv]), List.drop_zero]; rfl
      rw [eqI_t this]; rfl
  rw [e48]
  simp only [obind, Bool.false_eq_true, if_false]
  obtain ⟨q, hq⟩ := knows p (p.Funs.length : Int) (fuel := 100000000) (by omega)
  have hqe : eqI (kE q) 0 = false := by
    cases q with
    | inl e => exact eqI_f (inl_ne0 hq.res)
    | inr X =>
      obtain ⟨_, _, f, h1, _⟩ := hq.res.inr
      have := (List.getElem?_eq_some_iff.1 h1).1
      omega
  rw [hq.fn]
  simp only [obind, hqe, Bool.false_eq_true, if_false]
  obtain ⟨o, ho⟩ := knows p n (fuel := 100000000) (by omega)
  rw [ho.rea, ho.dep]
  simp only [obind]
  cases o with
  | inl e =>
    rw [show eqI (kR (.inl e)).2 0 = false from eqI_f (inl_ne0 ho.res)]
    simp only [kR, kD, Bool.not_false, if_true, eqI_t rfl]
    rfl
  | inr X =>
    obtain ⟨hv, hn, f, h1, hF, hX⟩ := ho.res.inr
    have hlt := (List.getElem?_eq_some_iff.1 h1).1
    have hl := hX.1.len
    have hh := hF.head
    have n0 := hh.n0; have n1 := hh.n1
    have hvl := valid_len hv
    simp only [kR, kD, eqI_t rfl, Bool.not_true, Bool.false_eq_true, if_false]
    have hne : ∀ {α : Type} (l : List α), 0 < l.length → neC l = some () := fun l h => by
      cases l with
      | nil => simp at h
      | cons a l => rfl
    rw [M.slices_Clone_api_Fun, hne p.Funs (by omega), obind, clC_some ⟨by omega, by decide, by omega⟩]
    simp only [obind]
    rw [ixC_some (by omega), obind, idx_some hn h1, obind, h1, obind, M.slices_Clone_api_Instr, hne f.Code (by omega), obind, clC_some ⟨by omega, by decide, by omega⟩]
    simp only [obind, List.length_map, hl, eqI_t rfl, Bool.not_true, Bool.or_self, Bool.false_eq_true, if_false]
    obtain ⟨c2, k1, k2, _, k4⟩ := dead_l2 by3 (X.map Option.isSome) 0 f.Code (by simp [hl])
    rw [k1]
    simp only [obind]
    rw [lenC_some k2]
    simp only [obind]
    have hcode : ∀ (at1 : Nat) (d : Int) (v : List Bool), X[at1]? = some (some (d, v)) → c2[at1]? = f.Code[at1]? := fun at1 d v hx => by
      have := k4 at1 (by rw [List.getElem?_map, hx]; rfl)
      simpa using this
    have hq : (⟨p.Funs.set n.toNat ⟨f.Captures, f.Locals, f.Depth, c2⟩, p.Texts, p.Main⟩ : Api.Program) = withF p n.toNat (recode f c2) := rfl
    rw [hq, RValid_M _ (by omega)]
    simp only [obind]
    cases hv2 : validS (withF p n.toNat (recode f c2)) with
    | false => rfl
    | true =>
      simp only [Bool.not_true, Bool.false_eq_true, if_false]
      obtain ⟨o2, ho2⟩ := knows (withF p n.toNat (recode f c2)) n (fuel := 100000000) (by omega)
      have hf' : (withF p n.toNat (recode f c2)).Funs[n.toNat]? = some (recode f c2) := List.getElem?_set_self hlt
      have hlen2 : (withF p n.toNat (recode f c2)).Funs.length = p.Funs.length := by simp [withF]
      have hres := ho2.res
      unfold Res at hres
      rw [if_neg (by simp [hv2]), if_neg (by rw [hlen2]; omega)] at hres
      obtain ⟨g, g1, g2⟩ := hres
      rw [hf'] at g1; cases g1
      have hc1 := cons_recode k2 hX.1 hcode
      rcases g2 with ⟨rfl, g2⟩ | ⟨X', rfl, g2⟩
      · exact (g2 X hc1).elim
      · have l1 := g2.2 X hc1
        have hc2 := cons_uncode k2 g2.1 fun at1 d v hx => by
          obtain ⟨w, w1, _⟩ := l1.2 at1 d v hx
          exact hcode at1 d w w1
        have := l1.antisymm (hX.2 X' hc2)
        subst this
        rw [ho2.dep]
        simp only [obind, kD, eqI_t rfl, if_true]
        exact EqInt_M _ (by rw [List.length_map]; omega)
end Go.Proofs.Ythbjlmoaceaeeaa
