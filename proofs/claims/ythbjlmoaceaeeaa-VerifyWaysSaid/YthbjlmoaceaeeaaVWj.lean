/- For every input the law VerifyWays returns true. Part 10 of 13. No condition. -/
import Derived.Test.YthbjlmoaceaeeaaVWi
set_option linter.unusedVariables false
set_option linter.unusedSimpArgs false
set_option maxRecDepth 100000
set_option maxHeartbeats 1000000
namespace Go.Proofs.Ythbjlmoaceaeeaa
open Go Go.Abs
structure RInv (f : Api.Fun) (a : List Bool) (b : List Int) (c : List (List Bool)) (X : St) : Prop where
  rr : Rr f a b c X
  good : Good0 f X
  start : ∃ v, X[0]? = some (some (0, v)) ∧ Sub v (first f)
  least : ∀ Y, Cons f Y → Le X Y
theorem l2_rel {p : Api.Program} {f : Api.Fun} (hF : FunOk p f) {fuel : Nat} (hfu : 20000 ≤ fuel) : ∀ (n k i : Nat) (a : List Bool) (b : List Int) (c : List (List Bool)) (ch : Bool) (X : St), i + n = f.Code.length → n < k → RInv f a b c X →
    (M.ref48_Fun_l2 fuel f k a b c ch i = some (.inl (noStates, false)) ∧ ∀ Y, ¬ Cons f Y) ∨
    (∃ ch' a' b' c' X', M.ref48_Fun_l2 fuel f k a b c ch i = some (.inr (ch', a', b', c')) ∧ RInv f a' b' c' X' ∧ pot f.Locals.toNat X' + (if ch' && !ch then 1 else 0) ≤ pot f.Locals.toNat X ∧
      (ch' = false → ch = false ∧ X' = X ∧ ∀ j, i ≤ j → j < f.Code.length → Sat f X j))
  | 0, k, i, a, b, c, ch, X, hi, hk, hI => by
    obtain ⟨k, rfl⟩ : ∃ g, k = g + 1 := ⟨k - 1, by omega⟩
    rw [M.ref48_Fun_l2, ltI_f (by omega), if_neg (by simp)]
    exact .inr ⟨ch, a, b, c, X, rfl, hI, by cases ch <;> simp, fun h => ⟨h, rfl, fun j h1 h2 => by omega⟩⟩
  | n + 1, k, i, a, b, c, ch, X, hi, hk, hI => by
    obtain ⟨k, rfl⟩ : ∃ g, k = g + 1 := ⟨k - 1, by omega⟩
    have hh := hF.head
    have h1 := hh.l0; have h2 := hh.l1; have h3 := hh.n1
    have hit : i < f.Code.length := by omega
    obtain ⟨x, hx, _, _⟩ := drop_split (s := f.Code) (i := i) hit
    rw [M.ref48_Fun_l2, ltI_t (by omega), if_pos rfl, ixC_some (by rw [hI.rr.al]; omega), obind]
    rcases hI.rr.rel i hit with ⟨x1, x2, x3, x4⟩ | ⟨d, v, x1, x2, x3, x4⟩
    · rw [x2, obind, if_pos (by simp)]
      rcases l2_rel hF hfu n k (i + 1) a b c ch X (by omega) (by omega) hI with h | ⟨ch', a', b', c', X', e1, e2, e3, e4⟩
      · exact .inl h
      · refine .inr ⟨ch', a', b', c', X', e1, e2, e3, fun h => ?_⟩
        obtain ⟨k1, k2, k3⟩ := e4 h
        refine ⟨k1, k2, fun j hj1 hj2 => ?_⟩
        by_cases e : j = i
        · subst e; intro d v hd; rw [x1] at hd; cases hd
        · exact k3 j (by omega) hj2
    · have hrow := hI.good.row i d v x1
      obtain ⟨r, p1, p2, p3⟩ := passes_M hF hx ⟨hrow.2.1, hrow.2.2⟩ hrow.1
      rw [x2, obind, if_neg (by simp), ixC_some (by rw [hI.rr.bl]; omega), obind, x3, obind, ixC_some (by rw [hI.rr.cl]; omega), obind, x4, obind, p1, obind, rtargets_M h3 hx hfu, obind]
      obtain ⟨r1, r2⟩ := r
      dsimp only at p2 p3 ⊢
      by_cases hbad : r2 = false ∨ (tgt f i x).2 ≠ 0
      · have hfl : flow f i d v = none := by
          unfold flow
          rw [hx]
          dsimp only
          rw [if_pos]
          rcases hbad with h | h
          · rcases p3.1 h with h | h | h | h | h
            · exact .inl h
            · exact .inr (.inl h)
            · exact .inr (.inr (.inl h))
            · exact .inr (.inr (.inr (.inl h)))
            · exact .inr (.inr (.inr (.inr (.inl h))))
          · exact .inr (.inr (.inr (.inr (.inr h))))
        left
        constructor
        · rw [if_pos]
          · rfl
          · rcases hbad with h | h
            · rw [h]; rfl
            · rw [eqI_f h]; simp
        · intro Y hY
          obtain ⟨d', v', ts, X', l, h1, _⟩ := step_le hY (hI.least Y hY) x1
          rw [hfl] at h1; cases h1
      · rw [not_or] at hbad
        have hr2 : r2 = true := by cases r2 with | true => rfl | false => exact (hbad.1 rfl).elim
        have c6 : (tgt f i x).2 = 0 := Decidable.byContradiction hbad.2
        have hcond := fun h => hbad.1 (p3.2 h)
        have hr1 := p2 hr2
        subst hr1
        have hfl : flow f i d v = some (d - (eff x).1 + (eff x).2.1, if x.Op = 4 ∨ x.Op = 13 then v.set x.A.toNat true else v, (tgt f i x).1) := by
          unfold flow
          rw [hx]
          dsimp only
          rw [if_neg]
          intro h
          rcases h with h | h | h | h | h | h
          · exact hcond (.inl h)
          · exact hcond (.inr (.inl h))
          · exact hcond (.inr (.inr (.inl h)))
          · exact hcond (.inr (.inr (.inr (.inl h))))
          · exact hcond (.inr (.inr (.inr (.inr h))))
          · exact h c6
        obtain ⟨fl1, fl2, fl3, fl4, fl5⟩ := flow_len hfl
        have hv' := fl1.trans hrow.1
        have hd' := And.intro fl3 (Int.le_trans fl4 hh.d1)
        rw [hr2, eqI_t c6, if_neg (by simp), hx, obind, obind, obind, after_M hF hx hrow.1, obind]
        have htl := tgt_len (f := f) (at1 := i) (x := x)
        generalize hts : (tgt f i x).1 = ts at *
        have hpair : tgt f i x = (ts, 0) := by rw [← hts, ← c6]
        rw [hpair]
        obtain ⟨m1, m2⟩ := l3_rel ⟨h1, h2⟩ (fuel := fuel) (by omega) (ok := true) (e := 0) hv' hd' fl5 ts.length fuel 0 a b c ch X (by omega) (by omega) hI.rr hI.good
        rw [List.drop_zero] at m1 m2
        cases hm : mts (d - (eff x).1 + (eff x).2.1) (if x.Op = 4 ∨ x.Op = 13 then v.set x.A.toNat true else v) ts X with
        | none =>
          rw [m1 hm]
          left
          refine ⟨rfl, fun Y hY => ?_⟩
          obtain ⟨d2, v2, ts2, X', l, k1, k2, _⟩ := step_le hY (hI.least Y hY) x1
          rw [hfl] at k1
          simp only [Option.some.injEq, Prod.mk.injEq] at k1
          obtain ⟨rfl, rfl, rfl⟩ := k1
          rw [hm] at k2; cases k2
        | some q =>
          obtain ⟨X1, l⟩ := q
          obtain ⟨a1, b1, c1, e1, e2⟩ := m2 X1 l hm
          obtain ⟨g1, g2, g3, g4, g5, g6⟩ := mts_good hv' hd' hI.good hm
          have hp := mts_pot hv' hd' hI.good hm
          rw [e1]
          simp only [obind, Sum.elim_inr]
          have hI1 : RInv f a1 b1 c1 X1 := by
            refine ⟨e2, g1, ?_, fun Y hY => ?_⟩
            · obtain ⟨v0, s1, s2⟩ := hI.start
              obtain ⟨w, k1, k2⟩ := g6 0 0 v0 s1
              exact ⟨w, k1, k2.trans s2⟩
            · obtain ⟨d2, v2, ts2, X2, l2, k1, k2, k3⟩ := step_le hY (hI.least Y hY) x1
              rw [hfl] at k1
              simp only [Option.some.injEq, Prod.mk.injEq] at k1
              obtain ⟨rfl, rfl, rfl⟩ := k1
              rw [hm] at k2
              simp only [Option.some.injEq, Prod.mk.injEq] at k2
              obtain ⟨rfl, rfl⟩ := k2
              exact k3
          rcases l2_rel hF hfu n k (i + 1) a1 b1 c1 (ch || !l.isEmpty) X1 (by omega) (by omega) hI1 with h | ⟨ch', a', b', c', X', k1, k2, k3, k4⟩
          · exact .inl h
          · refine .inr ⟨ch', a', b', c', X', k1, k2, ?_, fun h => ?_⟩
            · cases l with
              | nil => cases ch <;> cases ch' <;> simp at k3 hp ⊢ <;> omega
              | cons t l => cases ch <;> cases ch' <;> simp at k3 hp ⊢ <;> omega
            · obtain ⟨q1, q2, q3⟩ := k4 h
              have hl : l = [] := by cases l with | nil => rfl | cons t l => simp at q1
              have hX1 := g4 hl
              subst hX1
              refine ⟨by cases ch with | false => rfl | true => simp at q1, q2, fun j hj1 hj2 => ?_⟩
              by_cases e : j = i
              · subst e
                intro d1 u1 hu1
                rw [x1] at hu1
                simp only [Option.some.injEq, Prod.mk.injEq] at hu1
                obtain ⟨rfl, rfl⟩ := hu1
                exact ⟨_, _, _, hfl, g2⟩
              · exact q3 j (by omega) hj2
theorem l1_rel {p : Api.Program} {f : Api.Fun} (hF : FunOk p f) {fuel : Nat} (hfu : 20000 ≤ fuel) : ∀ (k : Nat) (a : List Bool) (b : List Int) (c : List (List Bool)) (X : St) (ch : Bool), RInv f a b c X → pot f.Locals.toNat X + (if ch then 1 else 0) < k → (ch = false → ∀ j, Sat f X j) →
    (M.ref48_Fun_l1 fuel f k a b c ch = some (.inl (noStates, false)) ∧ ∀ Y, ¬ Cons f Y) ∨
    (∃ a' b' c' X', M.ref48_Fun_l1 fuel f k a b c ch = some (.inr (a', b', c')) ∧ Rr f a' b' c' X' ∧ Least f X')
  | 0, a, b, c, X, ch, hI, hk, hs => by omega
  | k + 1, a, b, c, X, ch, hI, hk, hs => by
    rw [M.ref48_Fun_l1]
    cases ch with
    | false =>
      rw [if_neg (by simp)]
      exact .inr ⟨a, b, c, X, rfl, hI.rr, ⟨⟨hI.good, hI.start, hs rfl⟩, hI.least⟩⟩
    | true =>
      rw [if_pos rfl]
      have h3 := hF.head.n1
      rcases l2_rel hF hfu f.Code.length fuel 0 a b c false X (by omega) (by omega) hI with ⟨h1, h2⟩ | ⟨ch', a', b', c', X', e1, e2, e3, e4⟩
      · left
        refine ⟨?_, h2⟩
        rw [h1]; rfl
      · rw [e1]
        simp only [obind, Sum.elim_inr]
        simp only [if_true] at hk
        refine l1_rel hF hfu k a' b' c' X' ch' e2 (by cases ch' <;> simp at e3 ⊢ <;> omega) fun h j => ?_
        obtain ⟨_, q2, q3⟩ := e4 h
        subst q2
        rcases Nat.lt_or_ge j f.Code.length with hj | hj
        · exact q3 j (by omega) hj
        · intro d v hd
          have := (List.getElem?_eq_some_iff.1 hd).1
          rw [e2.good.len] at this; omega
def outD : Option (Int × List Bool) → Int
  | none => -1
  | some (d, _) => d
def outS : Option (Int × List Bool) → List Bool
  | none => []
  | some (_, v) => v
theorem l4_rel {f : Api.Fun} {a : List Bool} {b : List Int} {c : List (List Bool)} {X : St} (hR : Rr f a b c X) (hl : X.length = f.Code.length) : ∀ (n k i : Nat), i + n = f.Code.length → n < k →
    M.ref48_Fun_l4 f (a, b, c) k ((X.map outD).take i ++ b.drop i) i = some (X.map outD)
  | 0, k, i, hi, hk => by
    obtain ⟨k, rfl⟩ : ∃ g, k = g + 1 := ⟨k - 1, by omega⟩
    rw [M.ref48_Fun_l4, ltI_f (by omega), List.take_of_length_le (by simp [hl]; omega), List.drop_eq_nil_of_le (by rw [hR.bl]; omega)]; simp
  | n + 1, k, i, hi, hk => by
    obtain ⟨k, rfl⟩ : ∃ g, k = g + 1 := ⟨k - 1, by omega⟩
    have hit : i < f.Code.length := by omega
    have ih := l4_rel hR hl n k (i + 1) (by omega) (by omega)
    have hlen : ((X.map outD).take i).length = i := by rw [List.length_take, List.length_map, hl]; omega
    have hbd : b.drop i = b[i]'(by rw [hR.bl]; exact hit) :: b.drop (i + 1) := List.drop_eq_getElem_cons _
    rw [M.ref48_Fun_l4, ltI_t (by omega), if_pos rfl]
    dsimp only
    rw [ixC_some (by rw [hR.al]; omega), obind]
    rcases hR.rel i hit with ⟨x1, x2, x3, x4⟩ | ⟨d, v, x1, x2, x3, x4⟩
    · have hm : (X.map outD)[i]? = some (-1) := by rw [List.getElem?_map, x1]; rfl
      rw [x2, obind, if_pos (by simp), ixC_some (by rw [List.length_append, hlen, List.length_drop, hR.bl]; omega), obind]
      have : ((X.map outD).take i ++ b.drop i).set i (-1) = (X.map outD).take (i + 1) ++ b.drop (i + 1) := by
        rw [List.set_append_right _ _ (by omega), hlen, Nat.sub_self, hbd, List.set_cons_zero, List.take_add_one, hm]; simp
      rw [this]; exact ih
    · have hm : (X.map outD)[i]? = some d := by rw [List.getElem?_map, x1]; rfl
      rw [x2, obind, if_neg (by simp)]
      have : (X.map outD).take i ++ b.drop i = (X.map outD).take (i + 1) ++ b.drop (i + 1) := by
        obtain ⟨h1, h2⟩ := List.getElem?_eq_some_iff.1 x3
        rw [hbd, h2, List.take_add_one, hm]; simp
      rw [this]; exact ih
theorem rr_out {f : Api.Fun} {a : List Bool} {b : List Int} {c : List (List Bool)} {X : St} (hR : Rr f a b c X) (hl : X.length = f.Code.length) : a = X.map Option.isSome ∧ c = X.map outS := by
  constructor
  · apply List.ext_getElem?
    intro t
    rcases Nat.lt_or_ge t f.Code.length with ht | ht
    · rcases hR.rel t ht with ⟨x1, x2, x3, x4⟩ | ⟨d, v, x1, x2, x3, x4⟩
      · rw [x2, List.getElem?_map, x1]; rfl
      · rw [x2, List.getElem?_map, x1]; rfl
    · rw [List.getElem?_eq_none (by rw [hR.al]; exact ht), List.getElem?_eq_none (by simp [hl]; exact ht)]
  · apply List.ext_getElem?
    intro t
    rcases Nat.lt_or_ge t f.Code.length with ht | ht
    · rcases hR.rel t ht with ⟨x1, x2, x3, x4⟩ | ⟨d, v, x1, x2, x3, x4⟩
      · rw [x4, List.getElem?_map, x1]; rfl
      · rw [x4, List.getElem?_map, x1]; rfl
    · rw [List.getElem?_eq_none (by rw [hR.cl]; exact ht), List.getElem?_eq_none (by simp [hl]; exact ht)]
def states (X : St) : Ref48.States := ⟨X.map Option.isSome, X.map outD, X.map outS⟩
theorem RFun_M {p : Api.Program} {f : Api.Fun} (hF : FunOk p f) {fuel : Nat} (hfu : 100000000 ≤ fuel) :
    (M.ref48_Fun fuel f = some (noStates, false) ∧ ∀ Y, ¬ Cons f Y) ∨ (∃ X, M.ref48_Fun fuel f = some (states X, true) ∧ Least f X) := by
  have hh := hF.head
  have h1 := hh.l0; have h2 := hh.l1; have h3 := hh.n1; have h4 := hh.n0
  have hp := X1_pot hh
  rw [M.ref48_Fun, mkL_some ⟨by omega, by decide, by omega, by omega⟩, obind, mkL_some ⟨by omega, by decide, by omega, by omega⟩, obind, mkL_some ⟨by omega, by decide, by omega, by omega⟩, obind,
    mkL_some ⟨by omega, by decide, by omega, by omega⟩, obind, ixC_some (by simp; omega), obind]
  simp only [Int.toNat_natCast]
  have hR0 : Rr f (List.replicate f.Code.length false) (List.replicate f.Code.length 0) (List.replicate f.Code.length []) (List.replicate f.Code.length none) :=
    ⟨by simp, by simp, by simp, fun t ht => .inl ⟨by simp [ht], by simp [ht], by simp [ht], by simp [ht]⟩⟩
  obtain ⟨_, m2⟩ := meets_rel (f := f) ⟨h1, h2⟩ (fuel := fuel) (by omega) hR0 (X0_good f) (t := 0) ⟨by omega, by omega⟩ (v := first f) (first_len f) (d := 0)
  obtain ⟨a1, b1, c1, e1, e2⟩ := m2 (X1 f) true (X1_mt hh)
  have e1' : M.ref48_meets fuel 0 0 ((List.replicate f.Locals.toNat false).set 0 true) (List.replicate f.Code.length false) (List.replicate f.Code.length 0) (List.replicate f.Code.length []) = some (true, true, a1, b1, c1) := e1
  rw [e1']
  simp only [obind]
  rw [lenC_some (by rw [e2.al]; simp), obind, lenC_some (by rw [e2.bl]; simp), obind, lenC_some (by rw [e2.cl]; simp), obind]
  have g := (mt_good (X0_good f) (first_len f) (d := 0) (by omega) (X1_mt hh)).1
  have h0 : (X1 f)[0]? = some (some (0, first f)) := List.getElem?_set_self (by simp; omega)
  rcases l1_rel hF (fuel := fuel) (by omega) fuel a1 b1 c1 (X1 f) true ⟨e2, g, ⟨first f, h0, Sub.refl _⟩, X1_least hh⟩ (by simp; omega) nofun with ⟨k1, k2⟩ | ⟨a', b', c', X', k1, k2, k3⟩
  · left
    refine ⟨?_, k2⟩
    rw [k1]; rfl
  · right
    refine ⟨X', ?_, k3⟩
    rw [k1]
    simp only [obind, Sum.elim_inr]
    have hl := k3.1.len
    have := l4_rel k2 hl f.Code.length fuel 0 (by omega) (by omega)
    rw [List.take_zero, List.drop_zero, List.nil_append] at this
    rw [this, obind]
    obtain ⟨q1, q2⟩ := rr_out k2 hl
    rw [q1, q2]; rfl
end Go.Proofs.Ythbjlmoaceaeeaa
set_option linter.unusedVariables false
set_option linter.unusedSimpArgs false
set_option maxRecDepth 100000
set_option maxHeartbeats 1000000
namespace Go.Proofs.Ythbjlmoaceaeeaa
open Go Go.Abs
theorem awake_M {fuel : Nat} (h : 200 ≤ fuel) : M.law48_awake fuel = some true := by
  obtain ⟨g, rfl⟩ : ∃ g, fuel = g + 200 := ⟨fuel - 200, by omega⟩
  kernel_rfl
theorem big_M (p : Api.Program) {fuel : Nat} (hf : 1000 ≤ fuel) : ∃ b, M.law48_big fuel p = some b := by
  rw [M.law48_big]
  by_cases h1 : 10 < p.Funs.length
  · rw [ltI_t (by omega)]; exact ⟨true, rfl⟩
  rw [ltI_f (by omega)]
  by_cases h2 : 50 < p.Texts.length
  · rw [ltI_t (by omega)]; exact ⟨true, rfl⟩
  rw [ltI_f (by omega)]
  simp only [Bool.false_eq_true, if_false]
  have e1 : M.slices_ContainsFunc_string_big_1 fuel p.Texts = some (p.Texts.any fun s => ltI 1000 (s.length : Int)) := by
    rw [M.slices_ContainsFunc_string_big_1, M.slices_IndexFunc_string_big_1]
    exact cf_loop (s := p.Texts) (Q := fun x => M.law48_big_1 x) (g := M.slices_IndexFunc_string_big_1_l1 p.Texts) (fun k i => by rw [M.slices_IndexFunc_string_big_1_l1]) (fun x _ => rfl) (by omega)
  have e2 : M.slices_ContainsFunc_api_Fun_big_2 fuel p.Funs = some (p.Funs.any fun f => (ltI 200 (f.Code.length : Int)) || ((ltI 60 f.Locals) && (leI f.Locals 4096))) := by
    rw [M.slices_ContainsFunc_api_Fun_big_2, M.slices_IndexFunc_api_Fun_big_2]
    exact cf_loop (s := p.Funs) (Q := fun x => M.law48_big_2 x) (g := M.slices_IndexFunc_api_Fun_big_2_l1 p.Funs) (fun k i => by rw [M.slices_IndexFunc_api_Fun_big_2_l1]) (fun x _ => rfl) (by omega)
  rw [e1, e2]
  simp only [obind]
  split
  · exact ⟨_, rfl⟩
  · exact ⟨_, rfl⟩
theorem valid_fun {p : Api.Program} (h : validS p = true) {f : Api.Fun} (hf : f ∈ p.Funs) : FunOk p f := by
  unfold validS at h
  simp only [Bool.and_eq_true] at h
  obtain ⟨h1, h2, h3, h4, h5, h6, h7⟩ := h
  refine ⟨headS_iff.1 (List.all_eq_true.1 h4 f hf), fun at1 x hx => ?_⟩
  have := List.all_eq_true.1 h5 f hf
  unfold rightsS at this
  have hm : (x, at1) ∈ f.Code.zipIdx 0 := by rw [List.mem_zipIdx_iff_getElem?]; simpa using hx
  exact List.all_eq_true.1 this _ hm
theorem valid_len {p : Api.Program} (h : validS p = true) : 1 ≤ p.Funs.length ∧ p.Funs.length ≤ 4096 := by
  unfold validS at h
  simp only [Bool.and_eq_true] at h
  have := inn_iff.1 h.1
  omega
def Res (p : Api.Program) (n : Int) (o : Int ⊕ St) : Prop :=
  if validS p = false then o = .inl 1 else if n < 0 ∨ p.Funs.length ≤ n then o = .inl 2 else
    ∃ f, p.Funs[n.toNat]? = some f ∧ ((o = .inl 24 ∧ ∀ Y, ¬ Cons f Y) ∨ ∃ X, o = .inr X ∧ Least f X)
theorem Res.uniq {p : Api.Program} {n : Int} {o o' : Int ⊕ St} (h : Res p n o) (h' : Res p n o') : o = o' := by
  unfold Res at h h'
  split at h
  · rename_i hc
    rw [if_pos hc] at h'
    rw [h, h']
  · rename_i hc
    rw [if_neg hc] at h'
    split at h
    · rename_i hd
      rw [if_pos hd] at h'
      rw [h, h']
    · rename_i hd
      rw [if_neg hd] at h'
      obtain ⟨f, h1, h2⟩ := h
      obtain ⟨f', h3, h4⟩ := h'
      rw [h1] at h3; cases h3
      rcases h2 with ⟨rfl, h2⟩ | ⟨X, rfl, h2⟩ <;> rcases h4 with ⟨rfl, h4⟩ | ⟨Y, rfl, h4⟩
      · rfl
      · exact (h2 Y h4.1).elim
      · exact (h4 X h2.1).elim
      · rw [h2.uniq h4]
theorem Res.inr {p : Api.Program} {n : Int} {X : St} (h : Res p n (.inr X)) : validS p = true ∧ 0 ≤ n ∧ ∃ f, p.Funs[n.toNat]? = some f ∧ FunOk p f ∧ Least f X := by
  unfold Res at h
  split at h
  · cases h
  · rename_i hc
    split at h
    · cases h
    · rename_i hd
      obtain ⟨f, h1, h2⟩ := h
      rcases h2 with ⟨h2, _⟩ | ⟨Y, h2, h3⟩
      · cases h2
      · cases h2
        have hv : validS p = true := by simpa using hc
        exact ⟨hv, by omega, f, h1, valid_fun hv (List.mem_of_getElem? h1), h3⟩
theorem rl_D {f : Api.Fun} {s : M.VS} {X : St} (h : Rl f s X) (hl : X.length = f.Code.length) : s.D = X.map outD := by
  apply List.ext_getElem?
  intro t
  rcases Nat.lt_or_ge t f.Code.length with ht | ht
  · rcases h.rel t ht with ⟨x1, x2, x3⟩ | ⟨d, v, k, x1, x2, x3, x4, x5⟩
    · rw [x2, List.getElem?_map, x1]; rfl
    · rw [x2, List.getElem?_map, x1]; rfl
  · rw [List.getElem?_eq_none (by rw [h.dl]; exact ht), List.getElem?_eq_none (by simp [hl]; exact ht)]
theorem rowsOf_M (L : Nat) (R : List M.Blk) : ∀ (S : List (Option Nat)) (X : St), X.length = S.length → (∀ t : Nat, t < S.length → (X[t]? = some none ∧ S[t]? = some none) ∨ (∃ (d : Int) (r : List Bool) (k : Nat), X[t]? = some (some (d, r)) ∧ S[t]? = some (some k) ∧ M.rowOf R k = some r ∧ r.length = L)) →
    M.rowsOf L R S = some (X.map outS)
  | [], X, hl, h => by
    have : X = [] := by simpa using hl
    subst this; rfl
  | o :: S, [], hl, h => by simp at hl
  | o :: S, x :: X, hl, h => by
    have ih := rowsOf_M L R S X (by simpa using hl) fun t ht => by simpa using h (t + 1) (by simpa using ht)
    rcases h 0 (by simp) with ⟨x1, x2⟩ | ⟨d, r, k, x1, x2, x3, x4⟩
    · simp at x1 x2; subst x1; subst x2
      rw [M.rowsOf, ih]; rfl
    · simp at x1 x2; subst x1; subst x2
      rw [M.rowsOf, x3, obind, lenN, if_pos x4, obind, ih]; rfl
theorem reach_M : ∀ (D : List Int) (out : List Bool), out.length + D.length ≤ 100000 → M.verify_Reached_l D out = some (out ++ D.map fun d => leI 0 d)
  | [], out, h => by rw [M.verify_Reached_l]; simp
  | d :: D, out, h => by
    rw [M.verify_Reached_l, app_some (by decide) (by simp at h ⊢; omega), obind, reach_M D _ (by simp at h ⊢; omega)]; simp
def kE : Int ⊕ St → Int
  | .inl e => e
  | .inr _ => 0
def kD : Int ⊕ St → List Int × Int
  | .inl e => ([], e)
  | .inr X => (X.map outD, 0)
def kS : Int ⊕ St → List (List Bool) × Int
  | .inl e => ([], e)
  | .inr X => (X.map outS, 0)
def kR : Int ⊕ St → List Bool × Int
  | .inl e => ([], e)
  | .inr X => (X.map Option.isSome, 0)
def kO : Int ⊕ St → Ref48.States × Int
  | .inl e => (noStates, e)
  | .inr X => (states X, 0)
structure Knows (p : Api.Program) (n : Int) (fuel : Nat) (o : Int ⊕ St) : Prop where
  res : Res p n o
  fn : M.verify_Fun fuel p n = some (kE o)
  dep : M.verify_Depths fuel p n = some (kD o)
  set : M.verify_Set fuel p n = some (kS o)
  rea : M.verify_Reached fuel p n = some (kR o)
  ref : M.ref48_Of fuel p n = some (kO o)
theorem knows_err {p : Api.Program} {n : Int} {fuel : Nat} {e : Int} (h : Res p n (.inl e)) (h1 : M.verify_function fuel p n = some (.inl e)) (h2 : M.ref48_Of fuel p n = some (noStates, e)) : Knows p n fuel (.inl e) :=
  ⟨h, by rw [M.verify_Fun, h1]; rfl, by rw [M.verify_Depths, h1]; rfl, by rw [M.verify_Set, h1]; rfl, by rw [M.verify_Reached, h1]; rfl, h2⟩
theorem knows (p : Api.Program) (n : Int) {fuel : Nat} (hf : 100000000 ≤ fuel) : ∃ o, Knows p n fuel o := by
  cases hv : validS p with
  | false =>
    refine ⟨.inl 1, knows_err (by unfold Res; rw [if_pos hv]) ?_ ?_⟩
    · rw [M.verify_function, Valid_M p (by omega), obind, hv]; rfl
    · rw [M.ref48_Of, RValid_M p (by omega), obind, hv]; rfl
  | true =>
  by_cases hn : n < 0 ∨ p.Funs.length ≤ n
  · have e1 : ((ltI n 0) || (leI (p.Funs.length : Int) n)) = true := by
      rcases hn with h | h
      · rw [ltI_t h]; rfl
      · rw [leI_t h]; simp
    refine ⟨.inl 2, knows_err (by unfold Res; rw [if_neg (by simp [hv]), if_pos hn]) ?_ ?_⟩
    · rw [M.verify_function, Valid_M p (by omega), obind, hv, e1]; rfl
    · rw [M.ref48_Of, RValid_M p (by omega), obind, hv, e1]; rfl
  · rw [not_or] at hn
    have e1 : ((ltI n 0) || (leI (p.Funs.length : Int) n)) = false := by rw [ltI_f (by omega), leI_f (by omega)]; rfl
    obtain ⟨f, hfn, _, hmem⟩ := drop_split (s := p.Funs) (i := n.toNat) (by omega)
    have hF := valid_fun hv hmem
    have hidx : idx p.Funs n = some f := idx_some (by omega) hfn
    obtain ⟨b, s, a1, a2, a3⟩ := analyze_M hF hf
    have hres : ∀ o, ((o = .inl 24 ∧ ∀ Y, ¬ Cons f Y) ∨ ∃ X, o = .inr X ∧ Least f X) → Res p n o := fun o ho => by
      unfold Res; rw [if_neg (by simp [hv]), if_neg (by omega)]; exact ⟨f, hfn, ho⟩
    cases b with
    | false =>
      have hno := a3 rfl
      rcases RFun_M hF hf with ⟨r1, r2⟩ | ⟨X, r1, r2⟩
      · refine ⟨.inl 24, knows_err (hres _ (.inl ⟨rfl, hno⟩)) ?_ ?_⟩
        · rw [M.verify_function, Valid_M p (by omega), obind, hv, e1]
          simp only [Bool.not_true, Bool.false_eq_true, if_false]
          rw [hidx, obind, a1]; rfl
        · rw [M.ref48_Of, RValid_M p (by omega), obind, hv, e1]
          simp only [Bool.not_true, Bool.false_eq_true, if_false]
          rw [hidx, obind, r1]; rfl
      · exact (hno X r2.1).elim
    | true =>
      obtain ⟨X, l1, l2⟩ := a2 rfl
      rcases RFun_M hF hf with ⟨r1, r2⟩ | ⟨X', r1, r2⟩
      · exact (r2 X l1.1).elim
      · have := r2.uniq l1
        subst this
        have hl := l1.1.len
        have h1 := hF.head.n1
        have hfun : M.verify_function fuel p n = some (.inr s) := by
          rw [M.verify_function, Valid_M p (by omega), obind, hv, e1]
          simp only [Bool.not_true, Bool.false_eq_true, if_false]
          rw [hidx, obind, a1]; rfl
        refine ⟨.inr X', hres _ (.inr ⟨X', rfl, l1⟩), by rw [M.verify_Fun, hfun]; rfl, by rw [M.verify_Depths, hfun, obind, kD, ← rl_D l2 hl], ?_, ?_, ?_⟩
        · rw [M.verify_Set, hfun, obind]
          dsimp only
          rw [rowsOf_M s.f.Locals.toNat s.R s.S X' (by rw [hl, l2.sl]) fun t ht => ?_]
          · rfl
          · rw [l2.sl] at ht
            rcases l2.rel t ht with ⟨x1, x2, x3⟩ | ⟨d, v, k, x1, x2, x3, x4, x5⟩
            · exact .inl ⟨x1, x3⟩
            · exact .inr ⟨d, v, k, x1, x4, x5, by rw [l2.hf]; exact (l1.1.row t d v x1).1⟩
        · rw [M.verify_Reached, hfun, obind]
          dsimp only
          rw [reach_M _ _ (by rw [l2.dl]; simp; omega), obind, rl_D l2 hl, List.nil_append, List.map_map]
          congr 2
          apply List.map_congr_left
          intro o ho
          cases o with
          | none => rfl
          | some q =>
            obtain ⟨t, ht⟩ := List.getElem?_of_mem ho
            have := l1.1.row t q.1 q.2 ht
            exact leI_t this.2.1
        · rw [M.ref48_Of, RValid_M p (by omega), obind, hv, e1]
          simp only [Bool.not_true, Bool.false_eq_true, if_false]
          rw [hidx, obind, r1]; rfl
open Classical in
noncomputable def accB (f : Api.Fun) : Bool := decide (∃ Y, Cons f Y)
theorem accB_t {f : Api.Fun} {X : St} (h : Least f X) : accB f = true := by unfold accB; simp only [decide_eq_true_eq]; exact ⟨X, h.1⟩
theorem accB_f {f : Api.Fun} (h : ∀ Y, ¬ Cons f Y) : accB f = false := by unfold accB; simp only [decide_eq_false_iff_not]; exact fun ⟨Y, hY⟩ => h Y hY
theorem check_l {p : Api.Program} {fuel : Nat} (hf : 100000000 ≤ fuel) : ∀ l : List Api.Fun, (∀ f ∈ l, FunOk p f) → M.verify_Check_l fuel l = some (if l.all accB then 0 else 24)
  | [], _ => rfl
  | f :: l, h => by
    obtain ⟨b, s, a1, a2, a3⟩ := analyze_M (h f (List.mem_cons_self ..)) hf
    rw [M.verify_Check_l, a1, obind, List.all_cons]
    cases b with
    | false => rw [accB_f (a3 rfl)]; rfl
    | true =>
      obtain ⟨X, l1, _⟩ := a2 rfl
      rw [accB_t l1, Bool.true_and]
      exact check_l hf l fun g hg => h g (List.mem_cons_of_mem _ hg)
theorem rcheck_l {p : Api.Program} {fuel : Nat} (hf : 100000000 ≤ fuel) (hp : ∀ f ∈ p.Funs, FunOk p f) : ∀ n k i, i + n = p.Funs.length → n < k → M.ref48_Check_l1 fuel p k i = some (if (p.Funs.drop i).all accB then .inr () else .inl 24)
  | 0, k, i, hi, hk => by
    obtain ⟨k, rfl⟩ : ∃ g, k = g + 1 := ⟨k - 1, by omega⟩
    rw [M.ref48_Check_l1, ltI_f (by omega), List.drop_eq_nil_of_le (by omega)]; rfl
  | n + 1, k, i, hi, hk => by
    obtain ⟨k, rfl⟩ : ∃ g, k = g + 1 := ⟨k - 1, by omega⟩
    obtain ⟨f, h1, h2, h3⟩ := drop_split (s := p.Funs) (i := i) (by omega)
    rw [M.ref48_Check_l1, ltI_t (by omega), if_pos rfl, h1, obind, h2, List.all_cons]
    rcases RFun_M (hp f h3) hf with ⟨r1, r2⟩ | ⟨X, r1, r2⟩
    · rw [r1, accB_f r2]; rfl
    · rw [r1, accB_t r2, Bool.true_and]
      exact rcheck_l hf hp n k (i + 1) (by omega) (by omega)
noncomputable def checkS (p : Api.Program) : Int := if validS p = false then 1 else if p.Funs.all accB then 0 else 24
theorem Check_M (p : Api.Program) {fuel : Nat} (hf : 100000000 ≤ fuel) : M.verify_Check fuel p = some (checkS p) := by
  rw [M.verify_Check, Valid_M p (by omega), obind]
  unfold checkS
  cases hv : validS p with
  | false => rfl
  | true =>
    simp only [Bool.not_true, Bool.false_eq_true, if_false, Bool.true_eq_false]
    exact check_l hf _ fun f h => valid_fun hv h
theorem RCheck_M (p : Api.Program) {fuel : Nat} (hf : 100000000 ≤ fuel) : M.ref48_Check fuel p = some (checkS p) := by
  rw [M.ref48_Check, RValid_M p (by omega), obind]
  unfold checkS
  cases hv : validS p with
  | false => rfl
  | true =>
    simp only [Bool.not_true, Bool.false_eq_true, if_false, Bool.true_eq_false]
    have := valid_len hv
    rw [rcheck_l hf (fun f h => valid_fun hv h) p.Funs.length fuel 0 (by omega) (by omega), List.drop_zero]
    cases p.Funs.all accB <;> rfl
theorem VerifyChecks_true (p : Api.Program) (n : Int) (_ : Rng .i64 n) : ∃ fuel, M.law48_VerifyChecks fuel p n = some true := by
  refine ⟨100000000, ?_⟩
  obtain ⟨b, hb⟩ := big_M p (fuel := 100000000) (by omega)
  rw [M.law48_VerifyChecks, awake_M (by omega)]
  simp only [obind, Bool.not_true, Bool.false_eq_true, if_false, hb]
  cases b with
  | true => rfl
  | false =>
    obtain ⟨o, ho⟩ := knows p n (fuel := 100000000) (by omega)
    rw [ho.ref, Check_M p (by omega), RCheck_M p (by omega), ho.fn]
    simp only [obind, Bool.false_eq_true, if_false]
    rw [eqI_t rfl]
    cases o with
    | inl e => simp only [if_true, obind, kE, kO]; rw [eqI_t rfl]
    | inr X => rfl
theorem eqInt_refl (s : List Int) : ∀ n k i, i + n = s.length → n < k → M.slices_Equal_int_l1 s s k i = some (.inr ())
  | 0, k, i, hi, hk => by
    obtain ⟨k, rfl⟩ : ∃ g, k = g + 1 := ⟨k - 1, by omega⟩
    rw [M.slices_Equal_int_l1, ltI_f (by omega)]; rfl
  | n + 1, k, i, hi, hk => by
    obtain ⟨k, rfl⟩ : ∃ g, k = g + 1 := ⟨k - 1, by omega⟩
    obtain ⟨x, h1, h2, h3⟩ := drop_split (s := s) (i := i) (by omega)
    rw [M.slices_Equal_int_l1, ltI_t (by omega), if_pos rfl, h1, obind, obind, eqI_t rfl, if_neg (by simp)]
    exact eqInt_refl s n k (i + 1) (by omega) (by omega)
theorem EqInt_M (s : List Int) {fuel : Nat} (h : s.length < fuel) : M.slices_Equal_int fuel s s = some true := by
  rw [M.slices_Equal_int, eqI_t rfl, eqInt_refl s s.length fuel 0 (by omega) h]; rfl
theorem eqBool_refl (s : List Bool) : ∀ n k i, i + n = s.length → n < k → M.slices_Equal_bool_l1 s s k i = some (.inr ())
  | 0, k, i, hi, hk => by
    obtain ⟨k, rfl⟩ : ∃ g, k = g + 1 := ⟨k - 1, by omega⟩
    rw [M.slices_Equal_bool_l1, ltI_f (by omega)]; rfl
  | n + 1, k, i, hi, hk => by
    obtain ⟨k, rfl⟩ : ∃ g, k = g + 1 := ⟨k - 1, by omega⟩
    obtain ⟨x, h1, h2, h3⟩ := drop_split (s := s) (i := i) (by omega)
    rw [M.slices_Equal_bool_l1, ltI_t (by omega), if_pos rfl, h1, obind, obind, if_neg (by cases x <;> simp [eqB])]
    exact eqBool_refl s n k (i + 1) (by omega) (by omega)
theorem EqBool_M (s : List Bool) {fuel : Nat} (h : s.length < fuel) : M.slices_Equal_bool fuel s s = some true := by
  rw [M.slices_Equal_bool, eqI_t rfl, eqBool_refl s s.length fuel 0 (by omega) h]; rfl
theorem eqRows_refl (s : List (List Bool)) {fuel : Nat} (hs : ∀ r ∈ s, r.length < fuel) : ∀ n k i, i + n = s.length → n < k → M.slices_EqualFunc_x__bool_Equal___bool_bool__l1 fuel s s k i = some (.inr ())
  | 0, k, i, hi, hk => by
    obtain ⟨k, rfl⟩ : ∃ g, k = g + 1 := ⟨k - 1, by omega⟩
    rw [M.slices_EqualFunc_x__bool_Equal___bool_bool__l1, ltI_f (by omega)]; rfl
  | n + 1, k, i, hi, hk => by
    obtain ⟨k, rfl⟩ : ∃ g, k = g + 1 := ⟨k - 1, by omega⟩
    obtain ⟨x, h1, h2, h3⟩ := drop_split (s := s) (i := i) (by omega)
    rw [M.slices_EqualFunc_x__bool_Equal___bool_bool__l1, ltI_t (by omega), if_pos rfl, h1, obind, obind, EqBool_M x (hs x h3), obind, if_neg (by simp)]
    exact eqRows_refl s hs n k (i + 1) (by omega) (by omega)
theorem EqRows_M (s : List (List Bool)) {fuel : Nat} (hs : ∀ r ∈ s, r.length < fuel) (h : s.length < fuel) : M.slices_EqualFunc_x__bool_Equal___bool_bool_ fuel s s = some true := by
  rw [M.slices_EqualFunc_x__bool_Equal___bool_bool_, eqI_t rfl, eqRows_refl s hs s.length fuel 0 (by omega) h]; rfl
theorem VerifyTables_true (p : Api.Program) (n : Int) (_ : Rng .i64 n) : ∃ fuel, M.law48_VerifyTables fuel p n = some true := by
  refine ⟨100000000, ?_⟩
  obtain ⟨b, hb⟩ := big_M p (fuel := 100000000) (by omega)
  rw [M.law48_VerifyTables, awake_M (by omega)]
  simp only [obind, Bool.not_true, Bool.false_eq_true, if_false, hb]
  cases b with
  | true => rfl
  | false =>
    obtain ⟨o, ho⟩ := knows p n (fuel := 100000000) (by omega)
    rw [ho.ref, ho.rea, ho.dep, ho.set]
    simp only [obind, Bool.false_eq_true, if_false]
    cases o with
    | inl e =>
      simp only [kR, kD, kS, kO, noStates, eqI_t rfl, if_true]
      rw [EqBool_M [] (by simp), EqInt_M [] (by simp), EqRows_M [] (by simp) (by simp)]; rfl
    | inr X =>
      obtain ⟨_, _, f, h1, hF, hX⟩ := ho.res.inr
      have hl := hX.1.len
      have hn := hF.head.n1; have hL := hF.head.l1
      simp only [kR, kD, kS, kO, states, eqI_t rfl, if_true]
      rw [EqBool_M _ (by rw [List.length_map]; omega), EqInt_M _ (by rw [List.length_map]; omega), EqRows_M _ (fun r hr => ?_) (by rw [List.length_map]; omega)]
      · rfl
      · obtain ⟨q, hq, rfl⟩ := List.mem_map.1 hr
        cases q with
        | none => simp [outS]
        | some q =>
          obtain ⟨t, ht⟩ := List.getElem?_of_mem hq
          have := hX.1.row t q.1 q.2 ht
          simp only [outS]; omega
end Go.Proofs.Ythbjlmoaceaeeaa
set_option linter.unusedVariables false
set_option linter.unusedSimpArgs false
set_option maxRecDepth 100000
set_option maxHeartbeats 1000000
namespace Go.Proofs.Ythbjlmoaceaeeaa
open Go Go.Abs
theorem ways_l2 {v w : List Bool} (h : Sub v w) : ∀ n k i, i + n = v.length → n < k → M.law48_VerifyWays_l2 w v k i = some (.inr ())
  | 0, k, i, hi, hk => by
    obtain ⟨k, rfl⟩ : ∃ g, k = g + 1 := ⟨k - 1, by omega⟩
    rw [M.law48_VerifyWays_l2, ltI_f (by omega)]; rfl
  | n + 1, k, i, hi, hk => by
    obtain ⟨k, rfl⟩ : ∃ g, k = g + 1 := ⟨k - 1, by omega⟩
    obtain ⟨x, h1, h2, h3⟩ := drop_split (s := v) (i := i) (by omega)
    have ih := ways_l2 h n k (i + 1) (by omega) (by omega)
    have hl := h.1
    rw [M.law48_VerifyWays_l2, ltI_t (by omega), if_pos rfl, h1, obind]
    cases x with
    | false => simpa using ih
    | true =>
      have hw := h.2 i h1
      rw [if_pos rfl, ixC_some (by omega), obind, hw, obind, obind]
      simpa using ih
theorem flow_some {f : Api.Fun} {at1 : Nat} {d : Int} {v : List Bool} {d' : Int} {v' : List Bool} {ts : List Int} (h : flow f at1 d v = some (d', v', ts)) : ∃ x, f.Code[at1]? = some x ∧ (eff x).2.2 = 0 ∧ (eff x).1 ≤ d ∧ (x.Op = 9 → d = 1) ∧ d' = d - (eff x).1 + (eff x).2.1 ∧ d' ≤ f.Depth ∧
    (x.Op = 3 → v[x.A.toNat]? = some true) ∧ tgt f at1 x = (ts, 0) ∧ v' = (if x.Op = 4 ∨ x.Op = 13 then v.set x.A.toNat true else v) := by
  unfold flow at h
  split at h
  · cases h
  · rename_i i hi
    split at h
    · cases h
    · rename_i hc
      simp only [Option.some.injEq, Prod.mk.injEq] at h
      obtain ⟨rfl, rfl, rfl⟩ := h
      simp only [not_or] at hc
      obtain ⟨c1, c2, c3, c4, c5, c6⟩ := hc
      refine ⟨i, hi, Decidable.byContradiction c1, by omega, fun h9 => Decidable.byContradiction fun h => c3 ⟨h9, h⟩, rfl, by omega, fun h3 => Decidable.byContradiction fun h => c5 ⟨h3, h⟩, ?_, rfl⟩
      have : (tgt f at1 i).2 = 0 := Decidable.byContradiction c6
      rw [← this]
theorem modC_some {c l : Nat} (hl : 0 < l) (hc : c < 256) : modC .i64 (Int.tmod (c : Int) (l : Int)) (l : Int) = some ((c % l : Nat) : Int) := by
  have e : Int.tmod (c : Int) (l : Int) = ((c % l : Nat) : Int) := by
    rw [Int.ofNat_tmod]
  rw [e, modC, if_pos]
  have := Nat.mod_le c l
  refine ⟨by omega, ?_⟩
  simp only [inR]; omega
theorem ways_l1 {p : Api.Program} {f : Api.Fun} (hF : FunOk p f) {X : St} (hX : Cons f X) {cs : List UInt8} {fuel : Nat} (hfu : 100000 ≤ fuel) : ∀ (n k i : Nat) (w : List Bool) (at1 : Nat) (d : Int) (v : List Bool), i + n = cs.length → n < k →
    X[at1]? = some (some (d, v)) → Sub v w → ∃ o, M.law48_VerifyWays_l1 fuel cs f (X.map Option.isSome, 0) (X.map outD, 0) (X.map outS, 0) k w (at1 : Int) d i = some o ∧ ∀ b, o = .inl b → b = true
  | 0, k, i, w, at1, d, v, hi, hk, hx, hs => by
    obtain ⟨k, rfl⟩ : ∃ g, k = g + 1 := ⟨k - 1, by omega⟩
    rw [M.law48_VerifyWays_l1, ltI_f (by omega)]
    exact ⟨_, rfl, nofun⟩
  | n + 1, k, i, w, at1, d, v, hi, hk, hx, hs => by
    obtain ⟨k, rfl⟩ : ∃ g, k = g + 1 := ⟨k - 1, by omega⟩
    obtain ⟨c, hc, _, _⟩ := drop_split (s := cs) (i := i) (by omega)
    have hh := hF.head
    have h1 := hh.l0; have h2 := hh.l1; have h3 := hh.n1; have h4 := hh.d1
    have hrow := hX.row at1 d v hx
    obtain ⟨d', v', ts, hfl, hts⟩ := hX.sat at1 d v hx
    obtain ⟨x, x1, x2, x3, x4, x5, x6, x7, x8, x9⟩ := flow_some hfl
    obtain ⟨fl1, fl2, fl3, fl4, fl5⟩ := flow_len hfl
    have he := eff_ok x2
    have hwl := hs.1
    have hlt := (List.getElem?_eq_some_iff.1 hx).1
    have i1 : idx (X.map Option.isSome) (at1 : Int) = some true := idx_some (by omega) (by rw [Int.toNat_natCast, List.getElem?_map, hx]; rfl)
    have i2 : idx (X.map outD) (at1 : Int) = some d := idx_some (by omega) (by rw [Int.toNat_natCast, List.getElem?_map, hx]; rfl)
    have i3 : idx (X.map outS) (at1 : Int) = some v := idx_some (by omega) (by rw [Int.toNat_natCast, List.getElem?_map, hx]; rfl)
    have i4 : idx f.Code (at1 : Int) = some x := idx_some (by omega) (by simpa using x1)
    have hxr := hF.right at1 x x1
    rw [M.law48_VerifyWays_l1, ltI_t (by omega), if_pos rfl, hc]
    simp only [obind, i1, i2, i3, Bool.not_true, Bool.false_eq_true, if_false, eqI_t rfl]
    rw [eqI_t (show (v.length : Int) = f.Locals by omega)]
    simp only [Bool.not_true, Bool.false_eq_true, if_false]
    rw [ways_l2 hs v.length fuel 0 (by omega) (by omega)]
    simp only [obind, Sum.elim_inr, i4, effect_M, targets_M h3 x1 (show 20000 ≤ fuel by omega), x8]
    rw [eqI_t x2, eqI_t rfl]
    simp only [Bool.not_true, Bool.false_eq_true, if_false]
    rw [ltI_f (by omega), chk64 (n := d - (eff x).1) (by omega) (by omega)]
    simp only [Bool.false_eq_true, if_false, obind]
    rw [chk64 (n := d - (eff x).1 + (eff x).2.1) (by omega) (by omega)]
    simp only [obind]
    rw [ltI_f (by omega)]
    simp only [Bool.false_eq_true, if_false]
    have e9 : (if eqI x.Op 9 = true then some (!(eqI d 1)) else some false : Option Bool) = some false := by
      by_cases e : x.Op = 9
      · rw [eqI_t e, eqI_t (x4 e)]; rfl
      · rw [eqI_f e]; rfl
    have e3 : (if eqI x.Op 3 = true then (ixC w x.A).bind fun u209 => (w[Int.toNat x.A]?).bind fun x213 => if !x213 then some true else if eqI x.Op 9 = true then some (!(eqI d 1)) else some false
        else if eqI x.Op 9 = true then some (!(eqI d 1)) else some false : Option Bool) = some false := by
      rw [e9]
      by_cases e : x.Op = 3
      · have hA := rightS_A hxr (.inl e)
        rw [eqI_t e, if_pos rfl, ixC_some (by omega), obind, hs.2 _ (x7 e), obind]; rfl
      · rw [eqI_f e]; rfl
    rw [e3]
    simp only [obind, Bool.false_eq_true, if_false]
    rw [chk64 (n := (eff x).2.1 - (eff x).1) (by omega) (by omega), obind, chk64 (n := d + ((eff x).2.1 - (eff x).1)) (by omega) (by omega), obind]
    have ed : d + ((eff x).2.1 - (eff x).1) = d' := by omega
    rw [ed]
    have go : ∀ w', Sub v' w' → ∃ o, (if eqI (ts.length : Int) 0 = true then some (.inl true) else
        (modC .i64 (Int.tmod (c.toNat : Int) (ts.length : Int)) (ts.length : Int)).bind fun n279 => (idx ts n279).bind fun x283 => if ((ltI x283 0) || (leI (f.Code.length : Int) x283)) = true then some (.inl false) else
        M.law48_VerifyWays_l1 fuel cs f (X.map Option.isSome, 0) (X.map outD, 0) (X.map outS, 0) k w' x283 d' (i + 1) : Option ((Bool) ⊕ ((List Bool)))) = some o ∧ ∀ b, o = .inl b → b = true := fun w' hw' => by
      by_cases e : ts.length = 0
      · rw [eqI_t (by omega), if_pos rfl]
        exact ⟨_, rfl, fun b hb => by cases hb; rfl⟩
      · rw [eqI_f (by omega), if_neg (by simp), modC_some (by omega) (UInt8.toNat_lt c), obind]
        have hm : c.toNat % ts.length < ts.length := Nat.mod_lt _ (by omega)
        obtain ⟨t, t1, _, t2⟩ := drop_split (s := ts) (i := c.toNat % ts.length) hm
        have t3 := fl5 t t2
        rw [idx_some (by omega) (by rw [Int.toNat_natCast]; exact t1), obind, ltI_f t3.1, leI_f t3.2, if_neg (by simp)]
        obtain ⟨u, u1, u2⟩ := hts t t2
        have := ways_l1 hF hX (cs := cs) hfu n k (i + 1) w' t.toNat d' u (by omega) (by omega) u1 (u2.trans hw')
        rw [Int.toNat_of_nonneg t3.1] at this
        exact this
    by_cases c7 : x.Op = 4 ∨ x.Op = 13
    · have hA := rightS_A hxr (.inr c7)
      have e7 : ((eqI x.Op 4) || (eqI x.Op 13)) = true := by rcases c7 with c7 | c7 <;> rw [eqI_t c7] <;> simp
      rw [e7, if_pos rfl, ixC_some (by omega), obind]
      refine go _ ?_
      rw [x9, if_pos c7]
      exact sub_set hs _
    · have e7 : ((eqI x.Op 4) || (eqI x.Op 13)) = false := by rw [eqI_f (fun e => c7 (.inl e)), eqI_f (fun e => c7 (.inr e))]; rfl
      rw [e7, if_neg (by simp)]
      refine go _ ?_
      rw [x9, if_neg c7]
      exact hs
theorem VerifyWays_true (p : Api.Program) (n : Int) (cs : List UInt8) (_ : Rng .i64 n) (_ : cs.length * 1 ≤ 140737488351232 ∧ ∀ x ∈ cs, True) : ∃ fuel, M.law48_VerifyWays fuel p n cs = some true := by
  refine ⟨100000000, ?_⟩
  obtain ⟨b, hb⟩ := big_M p (fuel := 100000000) (by omega)
  rw [M.law48_VerifyWays, awake_M (by omega)]
  simp only [obind, Bool.not_true, Bool.false_eq_true, if_false, hb]
  cases b with
  | true => rfl
  | false =>
    simp only [Bool.false_eq_true, if_false]
    by_cases hc : 400 < cs.length
    · rw [ltI_t (by omega)]; rfl
    rw [ltI_f (by omega)]
    obtain ⟨o, ho⟩ := knows p n (fuel := 100000000) (by omega)
    rw [ho.rea, ho.dep, ho.set, ho.fn, RValid_M p (by omega)]
    simp only [obind, Bool.false_eq_true, if_false]
    cases o with
    | inl e =>
      have : e ≠ 0 := by
        have := ho.res
        unfold Res at this
        split at this
        · cases this; decide
        · split at this
          · cases this; decide
          · obtain ⟨f, _, ⟨h, _⟩ | ⟨X, h, _⟩⟩ := this
            · cases h; decide
            · cases h
      rw [show eqI (kE (.inl e)) 0 = false from eqI_f this]; rfl
    | inr X =>
      obtain ⟨hv, hn, f, h1, hF, hX⟩ := ho.res.inr
      have hlt := (List.getElem?_eq_some_iff.1 h1).1
      have hl := hX.1.len
      have hh := hF.head
      have l0 := hh.l0; have l1 := hh.l1
      simp only [kE, kR, kD, kS, eqI_t rfl, hv, Bool.not_true, Bool.false_eq_true, if_false]
      rw [ltI_f hn, leI_f (by omega)]
      simp only [Bool.false_eq_true, if_false, obind]
      rw [idx_some hn h1]
      simp only [obind, List.length_map, hl, eqI_t rfl, Bool.not_true, Bool.or_self, Bool.false_eq_true, if_false]
      rw [mkL_some ⟨by omega, by decide, by omega, by omega⟩, obind, ixC_some (by simp; omega), obind]
      obtain ⟨v, s1, s2⟩ := hX.1.start
      obtain ⟨o, o1, o2⟩ := ways_l1 hF hX.1 (cs := cs) (fuel := 100000000) (by omega) cs.length 100000000 0 ((List.replicate f.Locals.toNat false).set 0 true) 0 0 v (by omega) (by omega) s1 s2
      rw [show ((0 : Nat) : Int) = 0 from rfl] at o1
      rw [o1, obind]
      cases o with
      | inl b => rw [o2 b rfl]; rfl
      | inr w => rfl
end Go.Proofs.Ythbjlmoaceaeeaa
