/- For every input the law VerifyDead returns true. Part 5 of 13. No condition. -/
import Derived.Test.YthbjlmoaceaeeaaVFd
set_option linter.unusedVariables false
set_option linter.unusedSimpArgs false
namespace Go.Abs
open Go
theorem get_of_copy {x y : AV} (h : x.copy = y.copy) {b : Bool} (hy : y = .bool b) : x = .bool b := by
  subst hy; cases x <;> simp at h; rw [h]
theorem get_of_copy' {x y : AV} (h : x.copy = y.copy) (hy : y = .tup []) : x = .tup [] := by
  subst hy; cases x <;> simp at h; rw [h]
theorem gstep_yields {P : Program} {B : List Nat} {ops : Array Oper} {o : Oper} {d : Nat} (hd : o.dst = some d) (hc : (isA o.op || isMove o.op || isLoad o.op) = true) {s s' : AState} (h : GStep P B ops o s s') :
    ∃ v l, (∀ u, l = some (.tmp u) → u ∈ usesOp o.op) ∧ (isLoad o.op = false → notCell l) ∧ (∀ b o, l = some (.cell b o) → B = [] ∨ b ∉ B) ∧ s' = s.putL d v l ∧ ∀ s2, SameView B ops o s s2 → GStep P B ops o s2 (s2.putL d v l) := by
  unfold GStep at h
  cases hg : o.guard with
  | none =>
    rw [hg] at h
    obtain ⟨v, l, h1, h2, h2', h3, h4⟩ := stepD_yields (ops := ops) hd hc h
    exact ⟨v, l, h1, h2, h2', h3, fun s2 hv => by unfold GStep; rw [hg]; exact h4 s2 hv⟩
  | some q =>
    obtain ⟨j, want⟩ := q
    rw [hg] at h
    obtain ⟨g, hgj, hh⟩ := h
    have hgu : g ∈ usesG ops o := List.mem_append_right _ (by simp [hg, hgj])
    rcases hh with ⟨b, hb, ⟨hw, hs⟩ | ⟨hw, rfl⟩⟩ | ⟨hb, rfl⟩
    · obtain ⟨v, l, h1, h2, h2', h3, h4⟩ := stepD_yields (ops := ops) hd hc hs
      exact ⟨v, l, h1, h2, h2', h3, fun s2 hv => by unfold GStep; rw [hg]; exact ⟨g, hgj, .inl ⟨b, get_of_copy (hv.1 g hgu) hb, .inl ⟨hw, h4 s2 hv⟩⟩⟩⟩
    · exact ⟨.tup [], none, fun u hu => (by cases hu), fun _ b o hb => (by cases hb), fun b o hb => (by cases hb), by rw [hd]; rfl, fun s2 hv => by
        unfold GStep; rw [hg]; exact ⟨g, hgj, .inl ⟨b, get_of_copy (hv.1 g hgu) hb, .inr ⟨hw, by rw [hd]; rfl⟩⟩⟩⟩
    · exact ⟨.tup [], none, fun u hu => (by cases hu), fun _ b o hb => (by cases hb), fun b o hb => (by cases hb), by rw [hd]; rfl, fun s2 hv => by
        unfold GStep; rw [hg]; exact ⟨g, hgj, .inr ⟨get_of_copy' (hv.1 g hgu) hb, by rw [hd]; rfl⟩⟩⟩
def okPair (B : List Nat) (ops : Array Oper) (a x : Oper) : Bool :=
  match a.dst with
  | none => false
  | some d => !(usesG ops a).contains d && !(usesG ops x).contains d &&
    (match x.dst with | none => true | some e => e != d && !(usesG ops a).contains e) &&
    (isA a.op || ((isMove a.op || isLoad a.op) && (isA x.op || isMove x.op || isLoad x.op || isNew x.op || (!B.isEmpty && isPut x.op))))
theorem okPair_spec {B : List Nat} {ops : Array Oper} {a x : Oper} (h : okPair B ops a x = true) : ∃ d, a.dst = some d ∧ d ∉ usesG ops a ∧ d ∉ usesG ops x ∧
    (∀ e, x.dst = some e → e ≠ d ∧ e ∉ usesG ops a) ∧ (isA a.op = true ∨ (isA a.op = false ∧ (isMove a.op || isLoad a.op) = true ∧ ((isA x.op || isMove x.op || isLoad x.op || isNew x.op) = true ∨ (B ≠ [] ∧ isPut x.op = true)))) := by
  unfold okPair at h
  cases hd : a.dst with
  | none => rw [hd] at h; cases h
  | some d =>
    rw [hd] at h
    simp only [Bool.and_eq_true, Bool.not_eq_true', List.contains_eq_mem, decide_eq_false_iff_not] at h
    obtain ⟨⟨⟨h0, h1⟩, h3⟩, h4⟩ := h
    refine ⟨d, rfl, h0, h1, fun e he => ?_, ?_⟩
    · rw [he] at h3
      simpa using h3
    · cases hA : isA a.op with
      | true => exact .inl rfl
      | false =>
        rw [hA] at h4; simp only [Bool.false_or, Bool.and_eq_true] at h4
        refine .inr ⟨rfl, h4.1, ?_⟩
        cases hx : (isA x.op || isMove x.op || isLoad x.op || isNew x.op) with
        | true => exact .inl rfl
        | false =>
          have h5 := h4.2
          rw [hx] at h5
          simp only [Bool.false_or, Bool.and_eq_true, Bool.not_eq_true', List.isEmpty_eq_false_iff] at h5
          exact .inr h5
theorem getD_append_lt {α : Type} {l bl : List α} {b : Nat} {z : α} (h : b < l.length) : (l ++ bl).getD b z = l.getD b z := by
  rw [List.getD_eq_getElem?_getD, List.getElem?_append_left h, ← List.getD_eq_getElem?_getD]
theorem swap {P : Program} {B : List Nat} {ops : Array Oper} {a x : Oper} (hok : okPair B ops a x = true) {s : AState} (hfree : ∀ d, a.dst = some d → s.free d) (hn : ∀ d, a.dst = some d → d < s.n) :
    (∀ s1 s2, GStep P B ops a s s1 → GStep P B ops x s1 s2 → ∃ s', GStep P B ops x s s' ∧ GStep P B ops a s' s2) ∧
    (∀ s1 s2, GStep P B ops x s s1 → GStep P B ops a s1 s2 → (isLoad a.op = true → ∀ t, t ∈ usesOp a.op → (s.get t).under s.blocks.length = true) → ∃ s', GStep P B ops a s s' ∧ GStep P B ops x s' s2) := by
  obtain ⟨d, hd, h0, h1, h3, h4⟩ := okPair_spec hok
  have hdn := hn d hd
  have hfree := hfree d hd
  have hc : (isA a.op || isMove a.op || isLoad a.op) = true := by
    rcases h4 with h4 | ⟨_, h4, _⟩
    · simp [h4]
    · rw [Bool.or_assoc, h4]; simp
  have hstore : isLoad a.op = true → isStore x.op = false ∨ B ≠ [] := fun hl => by
    rcases h4 with h4 | ⟨_, _, h4 | h4⟩
    · exfalso; cases ho : a.op <;> rw [ho] at hl h4 <;> simp [isLoad, isA] at hl h4
    · left; cases ho : x.op <;> rw [ho] at h4 <;> simp [isA, isMove, isLoad, isNew, isStore] at h4 ⊢
    · exact .inr h4.1
  have hokl : ∀ l : Option Place, (isLoad a.op = false → notCell l) → (∀ b o, l = some (.cell b o) → B = [] ∨ b ∉ B) → okL B x.op l := fun l y2 y3 => by
    cases hl : isLoad a.op with
    | false => exact .inl (y2 hl)
    | true =>
      rcases hstore hl with h5 | h5
      · exact .inr (.inl h5)
      · exact .inr (.inr ⟨h5, fun b o hb => (y3 b o hb).resolve_left h5⟩)
  have hmv : ∀ l : Option Place, (∀ u, l = some (.tmp u) → u ∈ usesOp a.op) → l ≠ some (.tmp d) ∧ ∀ e, x.dst = some e → e ≠ d ∧ l ≠ some (.tmp e) := fun l hl =>
    ⟨fun e => h0 (List.mem_append_left _ (hl d e)), fun e he => ⟨(h3 e he).1, fun e2 => (h3 e he).2 (List.mem_append_left _ (hl e e2))⟩⟩
  have hxd : x.dst ≠ some d := fun e => (h3 d e).1 rfl
  have hfr : ∀ s s', GStep P B ops x s s' → s'.n = s.n ∧ (∀ t, t ∈ usesG ops a → (s'.get t).copy = (s.get t).copy) ∧ (s.free d → s'.free d) ∧
      (isA a.op = false → (∀ t, t ∈ usesG ops a → s'.get t = s.get t) ∧ s.blocks.length ≤ s'.blocks.length ∧ (isLoad a.op = true → isNew x.op = false → s'.blocks.length = s.blocks.length) ∧ ∀ b, b < s.blocks.length → (B = [] ∨ b ∉ B) → s'.blocks.getD b [] = s.blocks.getD b []) := fun s s' hx => by
    obtain ⟨f1, f2, f3, f4⟩ := gstep_frame hx
    refine ⟨f1, fun t ht => f2 t (fun e => (h3 t e).2 ht), fun hS t hl => ?_, fun hA => ?_⟩
    · rcases f3 t d hl with h5 | ⟨_, h5⟩
      · exact hS t h5
      · exact h1 (List.mem_append_left _ h5)
    · rcases h4 with h4 | ⟨_, _, h4 | ⟨hB, h4⟩⟩
      · rw [hA] at h4; cases h4
      · obtain ⟨g1, bl, g2, g3⟩ := f4 h4
        refine ⟨fun t ht => g1 t (fun e => (h3 t e).2 ht), by rw [g2, List.length_append]; omega, fun _ hn => by rw [g2, g3 hn]; simp, fun b hb _ => by rw [g2]; exact getD_append_lt hb⟩
      · obtain ⟨g1, g2, g3⟩ := gstep_store hB h4 hx
        exact ⟨fun t ht => g1 t (fun e => (h3 t e).2 ht), by omega, fun _ _ => g2, fun b _ hb => g3 b (hb.resolve_left hB)⟩
  constructor
  · intro s1 s2 ha hx
    obtain ⟨v, l, y1, y2, y3, rfl, y4⟩ := gstep_yields (ops := ops) hd hc ha
    obtain ⟨m1, m2⟩ := hmv l y1
    rw [putL_eq_upd s d hdn hfree m1] at hx
    obtain ⟨s', hx', rfl⟩ := (gstep_upd (hokl l y2 y3) hfree h1 m2).1 hx
    obtain ⟨f1, f2, f3, f4⟩ := hfr s s' hx'
    refine ⟨s', hx', ?_⟩
    have := y4 s' ⟨f2, fun hA => (f4 hA).1, fun hl t b off ht hg hb hB => ?_⟩
    · rw [putL_eq_upd s' d (by rw [f1]; exact hdn) (f3 hfree) m1] at this; exact this
    · have hA : isA a.op = false := by cases ho : a.op <;> rw [ho] at hl <;> simp [isLoad] at hl; rfl
      obtain ⟨_, g2, _, g4⟩ := f4 hA
      exact ⟨g4 b hb hB, by omega⟩
  · intro s1 s2 hx ha hun
    obtain ⟨v, l, y1, y2, y3, rfl, y4⟩ := gstep_yields (ops := ops) hd hc ha
    obtain ⟨m1, m2⟩ := hmv l y1
    obtain ⟨f1, f2, f3, f4⟩ := hfr s s1 hx
    have hview : SameView B ops a s1 s := ⟨fun t ht => (f2 t ht).symm, fun hA t ht => ((f4 hA).1 t ht).symm, fun hl t b off ht hg hb hB => by
      have hA : isA a.op = false := by cases ho : a.op <;> rw [ho] at hl <;> simp [isLoad] at hl; rfl
      obtain ⟨g1, g2, g3, g4⟩ := f4 hA
      have hu := hun hl t ht
      rw [← g1 t (List.mem_append_left _ ht), hg] at hu
      have hb' : b < s.blocks.length := by simpa [AV.under] using hu
      exact ⟨(g4 b hb' hB).symm, hb'⟩⟩
    have h5 := y4 s hview
    rw [putL_eq_upd s d hdn hfree m1] at h5
    refine ⟨_, h5, ?_⟩
    rw [putL_eq_upd s1 d (by rw [f1]; exact hdn) (f3 hfree) m1]
    exact (gstep_upd (hokl l y2 y3) hfree h1 m2).2 ⟨s1, hx, rfl⟩
mutual
theorem under_mono {m m' : Nat} (h : m ≤ m') : ∀ x : AV, x.under m = true → x.under m' = true
  | .mptr b o, hx => by simp only [AV.under, decide_eq_true_eq] at hx ⊢; omega
  | .baddr t b, hx => by simp only [AV.under, decide_eq_true_eq] at hx ⊢; omega
  | .msl b _ _, hx => by simp only [AV.under, decide_eq_true_eq] at hx ⊢; omega
  | .e0, _ => rfl
  | .fn f fs cs, hx => by simp only [AV.under, Bool.and_eq_true] at hx ⊢; exact ⟨underL_mono h fs hx.1, underL_mono h cs hx.2⟩
  | .iface t v, hx => by simp only [AV.under] at hx ⊢; exact under_mono h v hx
  | .agg cs, hx => by simp only [AV.under] at hx ⊢; exact underL_mono h cs hx
  | .tup cs, hx => by simp only [AV.under] at hx ⊢; exact underL_mono h cs hx
  | .int _ _, _ => rfl
  | .bool _, _ => rfl
  | .str _, _ => rfl
  | .nilp, _ => rfl
  | .cptr _, _ => rfl
  | .nsl, _ => rfl
  | .osl _ _, _ => rfl
  | .osq _ _, _ => rfl
  | .sl _, _ => rfl
  | .nilfn, _ => rfl
  | .nilif, _ => rfl
  | .top, _ => rfl
theorem underL_mono {m m' : Nat} (h : m ≤ m') : ∀ l : List AV, AV.underL m l = true → AV.underL m' l = true
  | [], _ => rfl
  | x :: l, hx => by simp only [AV.underL, Bool.and_eq_true] at hx ⊢; exact ⟨under_mono h x hx.1, underL_mono h l hx.2⟩
end
def Chain (P : Program) (B : List Nat) (ops : Array Oper) : List Nat → AState → AState → Prop
  | [], s, s' => s' = s
  | i :: l, s, s' => ∃ o s1, ops[i]? = some o ∧ GStep P B ops o s s1 ∧ Chain P B ops l s1 s'
def comm (B : List Nat) (ops : Array Oper) (i j : Nat) : Bool :=
  match ops[i]?, ops[j]? with
  | some a, some b => okPair B ops a b || okPair B ops b a
  | _, _ => false
theorem mem_srcs {ops : Array Oper} {o : Oper} {i u : Nat} (hi : ops[i]? = some o) (hm : isMove o.op = true) (hu : u ∈ usesOp o.op) : u ∈ srcs ops := by
  refine List.mem_flatMap.2 ⟨o, List.mem_of_getElem? (by rw [Array.getElem?_toList]; exact hi), ?_⟩
  cases ho : o.op <;> rw [ho] at hm hu <;> simp [isMove] at hm
  exact hu
def mvBad (ops : Array Oper) (k i : Nat) : Prop := ∃ ok oi u, ops[k]? = some ok ∧ ops[i]? = some oi ∧ isMove ok.op = true ∧ u ∈ usesOp ok.op ∧ oi.dst = some u
def LFree (ops : Array Oper) (l : List Nat) (s : AState) : Prop := ∀ i, i ∈ l → ∀ o d, ops[i]? = some o → o.dst = some d → s.free d
def dstsIn (ops : Array Oper) (n : Nat) : Prop := ∀ (i : Nat) o d, ops[i]? = some o → o.dst = some d → d < n
theorem front {P : Program} {B : List Nat} {ops : Array Oper} {j : Nat} {oj : Oper} (hj : ops[j]? = some oj) : ∀ (u1 : List Nat) (s s' : AState), Chain P B ops (u1 ++ [j]) s s' → (∀ k, k ∈ u1 → comm B ops k j = true) →
    LFree ops (u1 ++ [j]) s → (u1 ++ [j]).Pairwise (fun k i => ¬ mvBad ops k i) → dstsIn ops s.n → (isLoad oj.op = true → ∀ t, t ∈ usesOp oj.op → (s.get t).under s.blocks.length = true) → ∃ s1, GStep P B ops oj s s1 ∧ Chain P B ops u1 s1 s' := by
  intro u1
  induction u1 with
  | nil =>
    rintro s s' ⟨o, s1, h1, h2, rfl⟩ _ _ _ _ _
    rw [hj] at h1; cases h1
    exact ⟨_, h2, rfl⟩
  | cons k u1 ih =>
    rintro s s' ⟨ok, sk, h1, h2, h3⟩ hcm hS hpw hn hun
    rw [List.cons_append, List.pairwise_cons] at hpw
    have hkj := hcm k (List.mem_cons_self ..)
    simp only [comm, h1, hj, Bool.or_eq_true] at hkj
    obtain ⟨f1, f2, f3, f4⟩ := gstep_frame h2
    have hS' : LFree ops (u1 ++ [j]) sk := fun i hi o d ho hd t hl => by
      rcases f3 t d hl with h | ⟨hm, h⟩
      · exact hS i (List.mem_cons_of_mem _ hi) o d ho hd t h
      · exact hpw.1 i hi ⟨ok, o, d, h1, ho, hm, h, hd⟩
    have hdst : ∀ e, ok.dst = some e → e ∉ usesOp oj.op := fun e he hmem => by
      rcases hkj with h | h
      · obtain ⟨d, hd, _, hx, _⟩ := okPair_spec h
        rw [he] at hd; cases hd
        exact hx (List.mem_append_left _ hmem)
      · obtain ⟨d, hd, _, _, hx, _⟩ := okPair_spec h
        exact (hx e he).2 (List.mem_append_left _ hmem)
    have hun' : isLoad oj.op = true → ∀ t, t ∈ usesOp oj.op → (sk.get t).under sk.blocks.length = true := fun hl t ht => by
      have hcalm : (isA ok.op || isMove ok.op || isLoad ok.op || isNew ok.op) = true ∨ (B ≠ [] ∧ isPut ok.op = true) := by
        rcases hkj with h | h
        · obtain ⟨_, _, _, _, _, hx⟩ := okPair_spec h
          rcases hx with hx | ⟨_, hx, _⟩
          · left; simp [hx]
          · left; rw [Bool.or_assoc (isA ok.op), hx]; simp
        · obtain ⟨_, _, _, _, _, hx⟩ := okPair_spec h
          rcases hx with hx | ⟨_, _, hx | hx⟩
          · cases ho : oj.op <;> rw [ho] at hl hx <;> simp [isLoad, isA] at hl hx
          · exact .inl hx
          · exact .inr hx
      rcases hcalm with hcalm | ⟨hB, hst⟩
      · obtain ⟨g1, bl, g2, _⟩ := f4 hcalm
        rw [g1 t (fun e => hdst t e ht), g2, List.length_append]
        have := hun hl t ht
        revert this
        generalize s.get t = y
        intro hy
        exact under_mono (by omega) _ hy
      · obtain ⟨g1, g2, _⟩ := gstep_store hB hst h2
        rw [g1 t (fun e => hdst t e ht), g2]; exact hun hl t ht
    have hsw : ∀ sj, GStep P B ops oj sk sj → ∃ s1, GStep P B ops oj s s1 ∧ GStep P B ops ok s1 sj := fun sj hsj => by
      rcases hkj with h | h
      · exact (swap h (fun d hd => hS k (List.mem_cons_self ..) ok d h1 hd) (fun d hd => hn k ok d h1 hd)).1 sk sj h2 hsj
      · exact (swap h (fun d hd => hS j (List.mem_cons_of_mem _ (List.mem_append_right _ (List.mem_singleton_self _))) oj d hj hd) (fun d hd => hn j oj d hj hd)).2 sk sj h2 hsj hun
    obtain ⟨sj, e1, e2⟩ := ih sk s' h3 (fun q hq => hcm q (List.mem_cons_of_mem _ hq)) hS' hpw.2 (by rw [f1]; exact hn) hun'
    obtain ⟨s1, g1, g2⟩ := hsw sj e1
    exact ⟨s1, g1, ok, sj, h1, g2, e2⟩
theorem StepD.toA {P : Program} {B : List Nat} {o : Oper} {s s' : AState} (h : StepD P B o s s') : StepOk P o s s' := by
  rcases h with ⟨c, x, f, first, captured, res, h1, h2, h3, h4, h5, h6, rfl⟩ | ⟨r, h1, h2, _, rfl⟩
  · exact ok_call_pure h1 h2 h3 h4 h5 h6
  · exact (absOp_ok h1 h2).step
theorem GStep.sound {P : Program} {B : List Nat} {ops : Array Oper} {o : Oper} {s s' : AState} (h : GStep P B ops o s s') {F : Fx} {g : Gh} {a : Act} {w : World} (hs : Sim F g s a w)
    {K : Act → World → Prop} {Q : Exit → Act → World → Prop} (hK : ∀ g' a' w', Sim F g' s' a' w' → K a' w') :
    if Region.wanted o (yielded ops a.tmps) then o.wp P a w K Q else K (a.put o.dst undef) w := by
  have step : StepD P B o s s' → o.wp P a w K Q := fun h => h.toA F g a w hs K Q hK
  have skip : s' = s.putO o.dst (.tup []) → K (a.put o.dst undef) w := fun h => by
    obtain ⟨g', hs'⟩ := hs.putUndef o.dst
    exact hK _ _ _ (by rw [h]; exact hs')
  unfold GStep at h
  cases hg : o.guard with
  | none =>
    rw [hg] at h
    rw [if_pos (by simp [Region.wanted, hg])]
    exact step h
  | some q =>
    obtain ⟨j, want⟩ := q
    rw [hg] at h
    obtain ⟨d, hd, hh⟩ := h
    have hr := (hs.tmps d).1
    have boolv : ∀ b, s.get d = .bool b → yielded ops a.tmps j = some b := fun b hb => by
      have hb' : s.tmps d = .bool b := hb
      rw [hb'] at hr
      exact yielded_of_bool hd (by cases hh : a.tmps.getD d undef <;> rw [hh] at hr <;> cases hr; rfl)
    rcases hh with ⟨b, hb, ⟨hw, hst⟩ | ⟨hw, hsk⟩⟩ | ⟨hb, hsk⟩
    · rw [if_pos (by simp [Region.wanted, hg, boolv b hb, hw])]
      exact step hst
    · rw [if_neg (by simp [Region.wanted, hg, boolv b hb, hw])]
      exact skip hsk
    · have hb' : s.tmps d = .tup [] := hb
      rw [hb'] at hr
      have hv : a.tmps.getD d undef = undef := by
        cases hh : a.tmps.getD d undef <;> rw [hh] at hr <;> cases hr
        rename_i vs hsz _
        have : vs = #[] := by simpa using hsz
        subst this; rfl
      rw [if_neg (by simp [Region.wanted, hg, yielded_of_undef hd hv])]
      exact skip hsk
theorem chain_append {P : Program} {B : List Nat} {ops : Array Oper} : ∀ (l l' : List Nat) (s s' : AState), Chain P B ops (l ++ l') s s' ↔ ∃ m, Chain P B ops l s m ∧ Chain P B ops l' m s'
  | [], l', s, s' => ⟨fun h => ⟨s, rfl, h⟩, fun ⟨m, h1, h2⟩ => by cases h1; exact h2⟩
  | i :: l, l', s, s' => by
    constructor
    · rintro ⟨o, s1, h1, h2, h3⟩
      obtain ⟨m, h4, h5⟩ := (chain_append l l' s1 s').1 h3
      exact ⟨m, ⟨o, s1, h1, h2, h4⟩, h5⟩
    · rintro ⟨m, ⟨o, s1, h1, h2, h4⟩, h5⟩
      exact ⟨o, s1, h1, h2, (chain_append l l' s1 s').2 ⟨m, h4, h5⟩⟩
def edgesOf (o : Oper) : List Nat := (o.after.toList.filter (Region.binds .any)).map (·.on)
def ancTable (ops : List Oper) : List (List Nat) := ops.foldl (fun acc o => acc ++ [((edgesOf o).flatMap fun e => e :: acc.getD e []).eraseDups]) []
def dstOk (n : Nat) : Option Nat → Bool
  | some d => d < n
  | none => true
def mvOk (ops : Array Oper) : Bool :=
  ops.toList.zipIdx.all fun (o, k) => !isMove o.op || ops.toList.zipIdx.all fun (x, i) => match x.dst with
    | some u => !(usesOp o.op).contains u || ((ancTable ops.toList).getD k []).contains i
    | none => true
theorem mem_zipIdx' {ops : Array Oper} {i : Nat} {o : Oper} (h : ops[i]? = some o) : (o, i) ∈ ops.toList.zipIdx := by
  rw [List.mk_mem_zipIdx_iff_getElem?]; simpa using h
theorem mvOk_spec {ops : Array Oper} (h : mvOk ops = true) {k i : Nat} (hb : mvBad ops k i) : i ∈ (ancTable ops.toList).getD k [] := by
  obtain ⟨ok, oi, u, h1, h2, h3, h4, h5⟩ := hb
  have := List.all_eq_true.1 h (ok, k) (mem_zipIdx' h1)
  simp only [h3, Bool.not_true, Bool.false_or] at this
  have := List.all_eq_true.1 this (oi, i) (mem_zipIdx' h2)
  simp only [h5, Bool.or_eq_true, Bool.not_eq_true', List.contains_eq_mem, decide_eq_false_iff_not, decide_eq_true_eq] at this
  rcases this with h | h
  · exact absurd h4 h
  · exact h
def regOk (B : List Nat) (ops : Array Oper) (n : Nat) : Bool :=
  mvOk ops &&
  (ops.toList.zipIdx.all fun (o, j) => (edgesOf o).all (· < j) && dstOk n o.dst) &&
  (List.range ops.size).all fun j => (List.range j).all fun k => ((ancTable ops.toList).getD j []).contains k || comm B ops k j
end Go.Abs
