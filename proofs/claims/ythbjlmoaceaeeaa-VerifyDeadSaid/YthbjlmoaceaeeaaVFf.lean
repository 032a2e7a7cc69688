/- For every input the law VerifyDead returns true. Part 6 of 13. No condition. -/
import Derived.Test.YthbjlmoaceaeeaaVFe
import Derived.Orders
set_option linter.unusedVariables false
set_option linter.unusedSimpArgs false
namespace Go.Abs
open Go
theorem mem_anc {ops : List Oper} {L : Nat → Prop} (hcl : ∀ (j : Nat) o, ops[j]? = some o → L j → ∀ e, e ∈ edgesOf o → L e) :
    ∀ (j : Nat) o, ops[j]? = some o → (∀ e, e ∈ edgesOf o → L e) → ∀ k, k ∈ (ancTable ops).getD j [] → L k := by
  have key : ∀ (pre suf : List Oper) (acc : List (List Nat)), ops = pre ++ suf → acc.length = pre.length →
      (∀ (j : Nat) o, pre[j]? = some o → (∀ e, e ∈ edgesOf o → L e) → ∀ k, k ∈ acc.getD j [] → L k) →
      (∀ (j : Nat) o, ops[j]? = some o → (∀ e, e ∈ edgesOf o → L e) → ∀ k, k ∈ (suf.foldl (fun acc o => acc ++ [((edgesOf o).flatMap fun e => e :: acc.getD e []).eraseDups]) acc).getD j [] → L k) := by
    intro pre suf
    induction suf generalizing pre with
    | nil =>
      intro acc he hl h j o hj ho k hk
      rw [List.append_nil] at he
      subst he
      exact h j o hj ho k hk
    | cons x suf ih =>
      intro acc he hl h
      simp only [List.foldl_cons]
      refine ih (pre ++ [x]) _ (by simp [he]) (by simp [hl]) fun j o hj ho k hk => ?_
      rcases append_split hj with ⟨hlt, hj1⟩ | ⟨q, rfl, hj1⟩
      · rw [getD_append_lt (by omega)] at hk
        exact h j o hj1 ho k hk
      · cases q with
        | succ q => simp at hj1
        | zero =>
          simp only [List.getElem?_cons_zero, Option.some.injEq] at hj1
          subst hj1
          rw [List.getD_eq_getElem?_getD, List.getElem?_append_right (by omega)] at hk
          simp only [Nat.add_zero, hl, Nat.sub_self, List.getElem?_cons_zero, Option.getD_some] at hk
          rw [List.mem_eraseDups] at hk
          obtain ⟨e, he1, he2⟩ := List.mem_flatMap.1 hk
          simp only [List.mem_cons] at he2
          rcases he2 with rfl | he2
          · exact ho _ he1
          · have hLe := ho e he1
            by_cases hlt : e < pre.length
            · have hpe := List.getElem?_eq_getElem hlt
              have hoe : ops[e]? = some pre[e] := by rw [he, List.getElem?_append_left hlt]; exact hpe
              exact h e _ hpe (fun e' he' => hcl e _ hoe hLe e' he') k he2
            · rw [List.getD_eq_getElem?_getD, List.getElem?_eq_none (by omega)] at he2
              cases he2
  exact key [] ops [] rfl rfl (fun j o hj => by simp at hj)
theorem regOk_mv {B : List Nat} {ops : Array Oper} {n : Nat} (h : regOk B ops n = true) : mvOk ops = true := by
  simp only [regOk, Bool.and_eq_true] at h; exact h.1.1
theorem regOk_spec {B : List Nat} {ops : Array Oper} {n : Nat} (h : regOk B ops n = true) : (∀ (j : Nat) o, ops[j]? = some o → ∀ e, e ∈ edgesOf o → e < j) ∧ dstsIn ops n ∧
    ∀ j, j < ops.size → ∀ k, k < j → k ∈ (ancTable ops.toList).getD j [] ∨ comm B ops k j = true := by
  simp only [regOk, Bool.and_eq_true] at h
  replace h := And.intro h.1.2 h.2
  obtain ⟨h1, h2⟩ := h
  have h1' : ∀ (j : Nat) o, ops[j]? = some o → (edgesOf o).all (· < j) = true ∧ dstOk n o.dst = true := fun j o hj => by
    have hz : ops.toList.zipIdx[j]? = some (o, j) := by
      rw [List.getElem?_zipIdx, Array.getElem?_toList, hj]; simp
    have := (List.all_eq_true.1 h1) (o, j) (List.mem_of_getElem? hz)
    simpa only [Bool.and_eq_true] using this
  refine ⟨fun j o hj e he => by simpa using (List.all_eq_true.1 (h1' j o hj).1) e he, fun i o d hi hd => ?_, fun j hj k hk => ?_⟩
  · have := (h1' i o hi).2
    rw [hd] at this
    simpa [dstOk] using this
  · have := (List.all_eq_true.1 ((List.all_eq_true.1 h2) j (List.mem_range.2 hj))) k (List.mem_range.2 hk)
    simpa using this
theorem filter_split {p : Nat → Bool} {n i : Nat} (hi : i < n) (hp : p i = true) : ∃ u1 u2, (List.range n).filter p = u1 ++ i :: u2 ∧ (∀ k, k ∈ u1 → k < i ∧ p k = true) ∧
    (List.range n).filter (fun k => p k && k != i) = u1 ++ u2 := by
  obtain ⟨q, rfl⟩ : ∃ q, n = i + (1 + q) := ⟨n - (i + 1), by omega⟩
  have hr : List.range (i + (1 + q)) = List.range i ++ i :: (List.range' (i + 1) q) := by
    rw [List.range_eq_range', List.range_eq_range', ← List.range'_append_1, ← List.range'_append_1]
    simp [List.range'_one]
  refine ⟨(List.range i).filter p, (List.range' (i + 1) q).filter p, ?_, fun k hk => ?_, ?_⟩
  · rw [hr, List.filter_append, List.filter_cons_of_pos hp]
  · rw [List.mem_filter, List.mem_range] at hk; exact hk
  · rw [hr, List.filter_append, List.filter_cons_of_neg (by simp)]
    congr 1
    · apply List.filter_congr
      intro k hk
      rw [List.mem_range] at hk
      have : (k != i) = true := by simp; omega
      rw [this, Bool.and_true]
    · apply List.filter_congr
      intro k hk
      rw [List.mem_range'_1] at hk
      have : (k != i) = true := by simp; omega
      rw [this, Bool.and_true]
theorem getD_listed {n : Nat} (l : Array Bool) (i j : Nat) (z : Bool) (hj : j < l.size) : (l.setIfInBounds i true).getD j z = if j = i then true else l.getD j z := by
  rw [Array.getD_eq_getD_getElem?, Array.getElem?_setIfInBounds]
  by_cases e : i = j
  · subst e; simp [hj]
  · simp [e, Ne.symm e, Array.getD_eq_getD_getElem?]
theorem anc_lt {ops : Array Oper} (hedge : ∀ (j : Nat) o, ops[j]? = some o → ∀ e, e ∈ edgesOf o → e < j) {k i : Nat} (hk : k < ops.size) (h : i ∈ (ancTable ops.toList).getD k []) : i < k :=
  mem_anc (ops := ops.toList) (L := fun x => x < k) (fun j o hj hl e he => Nat.lt_trans (hedge j o (by simpa using hj) e he) hl) k ops[k] (by simp [Array.getElem?_eq_getElem hk]) (fun e he => hedge k ops[k] (Array.getElem?_eq_getElem hk) e he) i h
theorem pairwise_mv {ops : Array Oper} (hmv : mvOk ops = true) (hedge : ∀ (j : Nat) o, ops[j]? = some o → ∀ e, e ∈ edgesOf o → e < j) {p : Nat → Bool} {u1 u2 : List Nat} {i : Nat}
    (h : (List.range ops.size).filter p = u1 ++ i :: u2) : (u1 ++ [i]).Pairwise (fun k i => ¬ mvBad ops k i) := by
  have h1 : ((List.range ops.size).filter p).Pairwise (· < ·) := List.Pairwise.filter p List.pairwise_lt_range
  have h2 : (u1 ++ [i]).Pairwise (· < ·) := by
    rw [h, show u1 ++ i :: u2 = (u1 ++ [i]) ++ u2 by simp] at h1
    exact (List.pairwise_append.1 h1).1
  refine h2.imp fun {a b} hab hb => ?_
  have ha : a < ops.size := by obtain ⟨ok, _, _, h3, _⟩ := hb; exact lt_of_getElem? h3
  have := anc_lt hedge ha (mvOk_spec hmv hb)
  omega
theorem any_wp {P : Program} {B : List Nat} {ops : Array Oper} {Q : Exit → Act → World → Prop} {F : Fx} {n : Nat} (hok : regOk B ops n = true) : ∀ (fuel : Nat) (listed : Array Bool) (s s' : AState) (g : Gh) (a : Act) (w : World),
    listed.size = ops.size → ((List.range ops.size).filter fun i => !listed.getD i true).length ≤ fuel →
    (∀ (j : Nat) o, ops[j]? = some o → listed.getD j true = true → ∀ e, e ∈ edgesOf o → listed.getD e true = true) →
    Chain P B ops ((List.range ops.size).filter fun i => !listed.getD i true) s s' → Sim F g s a w → LFree ops ((List.range ops.size).filter fun i => !listed.getD i true) s → s.n = n → (∀ g a w, Sim F g s' a w → Q .normal a w) →
    wpAny P .any ops Q fuel listed a w := by
  obtain ⟨hedge, hdst, hcomm⟩ := regOk_spec hok
  have hin : ∀ (listed : Array Bool), listed.size = ops.size → ∀ i, i < ops.size → listed.getD i true = listed.getD i false := fun listed hsz i hi => by
    rw [Array.getD_eq_getD_getElem?, Array.getD_eq_getD_getElem?, Array.getElem?_eq_getElem (by omega)]; rfl
  have hleft : ∀ (listed : Array Bool), listed.size = ops.size → Region.ready .any ops listed = [] → ((List.range ops.size).filter fun i => !listed.getD i true) = [] := fun listed hsz hr => by
    have all : ∀ i, i < ops.size → listed.getD i true = true := by
      intro i
      induction i using Nat.strongRecOn with
      | _ i ih =>
        intro hi
        cases hv : listed.getD i true with
        | true => rfl
        | false =>
          have hmem : i ∈ Region.ready .any ops listed := mem_ready.2 ⟨hv, ops[i], Array.getElem?_eq_getElem hi, fun e he hb => by
            have hlt := hedge i _ (Array.getElem?_eq_getElem hi) e.on (List.mem_map.2 ⟨e, List.mem_filter.2 ⟨by simpa using he, hb⟩, rfl⟩)
            rw [← hin listed hsz e.on (by omega)]; exact ih e.on hlt (by omega)⟩
          rw [hr] at hmem; cases hmem
    rw [List.filter_eq_nil_iff]
    intro i hi
    rw [List.mem_range] at hi
    simp [all i hi]
  intro fuel
  induction fuel with
  | zero =>
    intro listed s s' g a w hsz hlen hcl hc hs hS hn hQ
    have hnil : ((List.range ops.size).filter fun i => !listed.getD i true) = [] := List.eq_nil_of_length_eq_zero (by omega)
    rw [hnil] at hc
    have : s' = s := hc
    subst this
    refine ⟨?_, hQ g a w hs⟩
    cases hr : Region.ready .any ops listed with
    | nil => rfl
    | cons i l =>
      have hi : i ∈ Region.ready .any ops listed := by rw [hr]; exact List.mem_cons_self ..
      obtain ⟨h1, o, h2, _⟩ := mem_ready.1 hi
      have : i ∈ ((List.range ops.size).filter fun i => !listed.getD i true) := List.mem_filter.2 ⟨List.mem_range.2 (lt_of_getElem? h2), by simp [h1]⟩
      rw [hnil] at this; cases this
  | succ fuel ih =>
    intro listed s s' g a w hsz hlen hcl hc hs hS hn hQ
    refine ⟨fun hr => ?_, fun i hi => ?_⟩
    · rw [hleft listed hsz hr] at hc
      have : s' = s := hc
      subst this
      exact hQ g a w hs
    · obtain ⟨h1, o, h2, h3⟩ := mem_ready.1 hi
      have hilt := lt_of_getElem? h2
      have hready : ∀ e, e ∈ edgesOf o → listed.getD e true = true := fun e he => by
        obtain ⟨ed, hed, rfl⟩ := List.mem_map.1 he
        rw [List.mem_filter] at hed
        have := h3 ed (by simpa using hed.1) hed.2
        have hlt := hedge i o h2 ed.on he
        rw [hin listed hsz _ (by omega)]; exact this
      obtain ⟨u1, u2, e1, e2, e3⟩ := filter_split (p := fun i => !listed.getD i true) hilt (by simp [h1])
      have hcm : ∀ k, k ∈ u1 → comm B ops k i = true := fun k hk => by
        obtain ⟨hlt, hk2⟩ := e2 k hk
        rcases hcomm i hilt k hlt with h | h
        · exfalso
          have := mem_anc (ops := ops.toList) (L := fun j => listed.getD j true = true) (fun j o hj => hcl j o (by simpa using hj)) i o (by simpa using h2) hready k h
          rw [this] at hk2; simp at hk2
        · exact h
      rw [e1, show u1 ++ i :: u2 = (u1 ++ [i]) ++ u2 by simp] at hc
      obtain ⟨m, hc1, hc2⟩ := (chain_append _ _ _ _).1 hc
      obtain ⟨s1, g1, g2⟩ := front h2 u1 s m hc1 hcm (fun q hq => hS q (by rw [e1]; rcases List.mem_append.1 hq with hq | hq; exact List.mem_append_left _ hq; rw [List.mem_singleton.1 hq]; exact List.mem_append_right _ (List.mem_cons_self ..))) (pairwise_mv (regOk_mv hok) hedge e1) (by rw [hn]; exact hdst) (fun _ t _ => by rw [← hs.sto.len]; exact (hs.tmps t).1.isUnder)
      have hc' : Chain P B ops (u1 ++ u2) s1 s' := (chain_append _ _ _ _).2 ⟨m, g2, hc2⟩
      obtain ⟨f1, f2, f3, f4⟩ := gstep_frame g1
      have hS' : LFree ops (u1 ++ u2) s1 := fun q hq oq d hoq hd t hl => by
        have hq' : q ∈ (List.range ops.size).filter fun i => !listed.getD i true := by
          rw [e1]
          rcases List.mem_append.1 hq with hq | hq
          · exact List.mem_append_left _ hq
          · exact List.mem_append_right _ (List.mem_cons_of_mem _ hq)
        rcases f3 t d hl with h | ⟨hm, h⟩
        · exact hS q hq' oq d hoq hd t h
        · have h5 := mem_anc (ops := ops.toList) (L := fun j => listed.getD j true = true) (fun j o hj => hcl j o (by simpa using hj)) i o (by simpa using h2) hready q (mvOk_spec (regOk_mv hok) ⟨o, oq, d, h2, hoq, hm, h, hd⟩)
          rw [List.mem_filter, h5] at hq'
          cases hq'.2
      have hfil : ((List.range ops.size).filter fun k => !(listed.setIfInBounds i true).getD k true) = u1 ++ u2 := by
        rw [← e3]
        apply List.filter_congr
        intro k hk
        rw [List.mem_range] at hk
        rw [getD_listed (n := 0) listed i k true (by omega)]
        by_cases e : k = i
        · simp [e]
        · simp [e]
      have hgo := GStep.sound g1 hs (K := wpAny P .any ops Q fuel (listed.setIfInBounds i true)) (Q := Q) (fun g' a' w' hs' =>
        ih (listed.setIfInBounds i true) s1 s' g' a' w' (by simpa using hsz) (by
            rw [hfil]
            have := hlen
            rw [e1] at this
            simp only [List.length_append, List.length_cons] at this ⊢
            omega) (fun j oj hj hl e he => by
            have hjlt := lt_of_getElem? hj
            have helt := hedge j oj hj e he
            rw [getD_listed (n := 0) listed i j true (by omega)] at hl
            rw [getD_listed (n := 0) listed i e true (by omega)]
            split
            · rfl
            · split at hl
              · rename_i hji
                subst hji
                rw [h2] at hj; cases hj
                exact hready e he
              · exact hcl j oj hj hl e he) (by rw [hfil]; exact hc') hs' (by rw [hfil]; exact hS') (by rw [f1]; exact hn) hQ)
      unfold wpOp
      simp only [h2]
      split
      · rename_i hw; rw [if_pos hw] at hgo; exact .inl hgo
      · rename_i hw; rw [if_neg hw] at hgo; exact hgo
def CallD (P : Program) (f : FuncId) (args : List AV) (s : AState) (dst : Option Nat) (K : AState → Prop) : Prop :=
  ∃ res, Pure P f args res ∧ AV.flatL args = true ∧ res.owns = false ∧ K (s.putO dst res)
@[congr] theorem CallD_congr {P : Program} {f : FuncId} {args args' : List AV} {s : AState} {dst : Option Nat} {K : AState → Prop} (h : args = args') : CallD P f args s dst K = CallD P f args' s dst K := by rw [h]
theorem callD {P : Program} {f : FuncId} {args : List AV} {s : AState} {dst : Option Nat} {K : AState → Prop} {res : AV} (h : Pure P f args res) (h1 : AV.flatL args = true) (h2 : res.owns = false) (h3 : K (s.putO dst res)) : CallD P f args s dst K :=
  ⟨res, h, h1, h2, h3⟩
def ResD (B : List Nat) (s : AState) (op : Op) (dst : Option Nat) (r : Option Res) (K : AState → Prop) : Prop :=
  match r with
  | some r => r.side ∧ Gd B s op ∧ K (s.putR dst r)
  | none => False
@[congr] theorem ResD_congr {B : List Nat} {s : AState} {op : Op} {dst : Option Nat} {r r' : Option Res} {K : AState → Prop} (h : r = r') : ResD B s op dst r K = ResD B s op dst r' K := by rw [h]
@[simp ↓] theorem ResD_some (B : List Nat) (s : AState) (op : Op) (dst : Option Nat) (r : Res) (K : AState → Prop) : ResD B s op dst (some r) K = (r.side ∧ Gd B s op ∧ K (s.putR dst r)) := Eq.trans rfl rfl
@[simp ↓] theorem ResD_none (B : List Nat) (s : AState) (op : Op) (dst : Option Nat) (K : AState → Prop) : ResD B s op dst none K = False := Eq.trans rfl rfl
def AStepD (P : Program) (B : List Nat) (o : Oper) (s : AState) (K : AState → Prop) : Prop :=
  match o.op with
  | .call c => match c.callee with
    | .value x => match s.look x with
      | .fn (.func f) first captured => CallD P f (callArgs s first captured c.args) s o.dst K
      | _ => False
    | .builtin b => ResK s o.dst (absBuiltin P s c b) K
    | _ => False
  | op => ResD B s op o.dst (absOp P s op) K
@[congr] theorem AStepD_congr {P : Program} {B : List Nat} {o : Oper} {s s' : AState} {K : AState → Prop} (h : s = s') : AStepD P B o s K = AStepD P B o s' K := by rw [h]
theorem AStepD.ok {P : Program} {B : List Nat} {o : Oper} {s : AState} {K : AState → Prop} (h : AStepD P B o s K) : ∃ s', StepD P B o s s' ∧ K s' := by
  have other : ∀ r, absOp P s o.op = some r → r.side → Gd B s o.op → K (s.putR o.dst r) → ∃ s', StepD P B o s s' ∧ K s' := fun r h1 h2 hg h3 => ⟨_, .inr ⟨r, h1, h2, hg, rfl⟩, h3⟩
  unfold AStepD at h
  split at h
  · rename_i c ho
    split at h
    · rename_i x hc
      split at h
      · rename_i f first captured hx
        obtain ⟨res, h1, h2, h3, h4⟩ := h
        exact ⟨_, .inl ⟨c, x, f, first, captured, res, ho, hc, hx, h1, h2, h3, rfl⟩, h4⟩
      · exact h.elim
    · rename_i b hc
      unfold ResK at h
      split at h
      · rename_i r hr
        exact other r (by rw [ho]; simp only [absOp, hc]; exact hr) h.1 (by rw [ho]; trivial) h.2
      · exact h.elim
    · exact h.elim
  · unfold ResD at h
    split at h
    · rename_i r hr
      exact other r hr h.1 h.2.1 h.2.2
    · exact h.elim
def AOpsD (P : Program) (B : List Nat) (ops : Array Oper) (K : AState → Prop) : List Oper → AState → Prop
  | [], s => K s
  | o :: l, s => match o.guard with
    | none => AStepD P B o s (AOpsD P B ops K l)
    | some (j, want) => GuardAt ((ops[j]?).bind (·.dst)) fun d => GuardV (s.get d) want (AStepD P B o s (AOpsD P B ops K l)) (AOpsD P B ops K l (s.putO o.dst (.tup [])))
@[congr] theorem AOpsD_congr {P : Program} {B : List Nat} {ops : Array Oper} {K : AState → Prop} {l : List Oper} {s s' : AState} (h : s = s') : AOpsD P B ops K l s = AOpsD P B ops K l s' := by rw [h]
theorem AOpsD.chain {P : Program} {B : List Nat} {ops : Array Oper} {K : AState → Prop} : ∀ (l : List Oper) (k : Nat) (s : AState), (∀ j, l[j]? = ops[k + j]?) → AOpsD P B ops K l s →
    ∃ s', Chain P B ops (List.range' k l.length) s s' ∧ K s' := by
  intro l
  induction l with
  | nil => exact fun k s _ h => ⟨s, rfl, h⟩
  | cons o l ih =>
    intro k s hl h
    have h0 : ops[k]? = some o := by simpa using (hl 0).symm
    have hl' : ∀ j, l[j]? = ops[k + 1 + j]? := fun j => by have := hl (j + 1); simpa [Nat.add_assoc, Nat.add_comm 1 j] using this
    have go : ∀ s1, GStep P B ops o s s1 → AOpsD P B ops K l s1 → ∃ s', Chain P B ops (List.range' k (o :: l).length) s s' ∧ K s' := fun s1 h1 h2 => by
      obtain ⟨s', h3, h4⟩ := ih (k + 1) s1 hl' h2
      refine ⟨s', ?_, h4⟩
      rw [List.length_cons, List.range'_succ]
      exact ⟨o, s1, h0, h1, h3⟩
    unfold AOpsD at h
    cases hg : o.guard with
    | none =>
      rw [hg] at h
      obtain ⟨s1, h1, h2⟩ := h.ok
      exact go s1 (by unfold GStep; rw [hg]; exact h1) h2
    | some q =>
      obtain ⟨j, want⟩ := q
      rw [hg] at h
      simp only [GuardAt] at h
      split at h
      · rename_i d hd
        unfold GuardV at h
        split at h
        · rename_i b hb
          by_cases hw : b = want
          · obtain ⟨s1, h1, h2⟩ := (h.1 hw).ok
            exact go s1 (by unfold GStep; rw [hg]; exact ⟨d, hd, .inl ⟨b, hb, .inl ⟨hw, h1⟩⟩⟩) h2
          · have hw' : b = !want := by cases b <;> cases want <;> simp_all
            exact go _ (by unfold GStep; rw [hg]; exact ⟨d, hd, .inl ⟨b, hb, .inr ⟨hw', rfl⟩⟩⟩) (h.2 hw')
        · rename_i hb
          exact go _ (by unfold GStep; rw [hg]; exact ⟨d, hd, .inr ⟨hb, rfl⟩⟩) h
        · exact h.elim
      · exact h.elim
theorem awp_region_draw {P : Program} (B : List Nat) (hm : P.follows .mixedOrders = true) {id : Nat} {ops : Array Oper} {Q : Exit → AState → Prop} {s : AState} {n : Nat} (hn : s.n = n) (hok : regOk B ops n = true)
    (h : AOpsD P B ops (Q .normal) ops.toList s.fresh) : AWp P (.region id ops true) Q s := fun F g a w hs => by
  obtain ⟨s', h1, h2⟩ := AOpsD.chain ops.toList 0 s.fresh (fun j => by simp) h
  refine wp_region_any hm (any_wp (F := F) (n := n) hok ops.size _ s.fresh s' g a _ (by simp) ?_ ?_ ?_ hs.fresh.drew (fun _ _ _ _ _ _ t hl => by cases hl) hn (fun g a w hs' => ⟨g, s', hs', h2⟩))
  · exact Nat.le_trans (List.length_filter_le _ _) (by simp)
  · intro j o hj hl
    have : (Array.replicate ops.size false).getD j true = false := by
      have := lt_of_getElem? hj
      rw [Array.getD_eq_getD_getElem?, Array.getElem?_replicate, if_pos this]; rfl
    rw [this] at hl; cases hl
  · have hall : ((List.range ops.size).filter fun i => !(Array.replicate ops.size false).getD i true) = List.range ops.size := by
      rw [List.filter_eq_self]
      intro i hi
      rw [List.mem_range] at hi
      rw [Array.getD_eq_getD_getElem?, Array.getElem?_replicate, if_pos hi]; rfl
    rw [hall, List.range_eq_range']
    simpa using h1
end Go.Abs
set_option linter.unusedVariables false
set_option linter.unusedSimpArgs false
namespace Go.Abs
open Go
def AW (P : Program) : Code → (Exit → AState → Prop) → AState → Prop
  | .skip, Q, s => Q .normal s
  | .label _, Q, s => Q .normal s
  | .region _ ops false, Q, s => AOps P ops (Q .normal) ops.toList s.fresh
  | .region _ ops true, Q, s => regOk [] ops s.n = true ∧ AOpsD P [] ops (Q .normal) ops.toList s.fresh
  | .seq x y, Q, s => AW P x (seqK (AWp P y Q) Q) s
  | .cond c x y, Q, s => match s.look c with
    | .bool b => (b = true → AW P x Q s) ∧ (b = false → AW P y Q s)
    | _ => False
  | .block id c, Q, s => AW P c (blockK id Q) s
  | .exit id, Q, s => Q (.exit id) s
  | .ret, Q, s => Q .ret s
  | c, Q, s => AWp P c Q s
theorem AW.sound {P : Program} (hm : P.follows .mixedOrders = true) : ∀ (c : Code) (Q : Exit → AState → Prop) (s : AState), AW P c Q s → AWp P c Q s := by
  intro c
  induction c with
  | skip => exact fun Q s h F g a w hs => wp_skip ⟨g, s, hs, h⟩
  | label l => exact fun Q s h F g a w hs => wp_label ⟨g, s, hs, h⟩
  | region id ops draw =>
    intro Q s h
    cases draw with
    | false => exact awp_region h
    | true => exact awp_region_draw [] hm rfl h.1 h.2
  | seq x y ihx ihy =>
    intro Q s h
    exact awp_seq (ihx _ _ h)
  | cond c x y ihx ihy =>
    intro Q s h
    unfold AW at h
    split at h
    · rename_i b hb
      exact awp_cond hb (fun e => ihx _ _ (h.1 e)) (fun e => ihy _ _ (h.2 e))
    · exact h.elim
  | block id c ih => exact fun Q s h => awp_block (ih _ _ h)
  | exit id => exact fun Q s h F g a w hs => wp_exit ⟨g, s, hs, h⟩
  | ret => exact fun Q s h F g a w hs => wp_ret ⟨g, s, hs, h⟩
  | _ => exact fun Q s h => h
end Go.Abs
set_option linter.unusedVariables false
set_option linter.unusedSimpArgs false
namespace Go.Abs
open Go
section
variable (s : AState) (d t u b o : Nat) (x : AV) (blk : List AV)
@[simp] theorem get_start (n base : Nat) (args : List AV) (bs : List (List AV)) : (start n base args bs).get t = args.getD t (.tup []) := rfl
@[simp] theorem n_start (n base : Nat) (args : List AV) (bs : List (List AV)) : (start n base args bs).n = n := rfl
@[simp] theorem base_start (n base : Nat) (args : List AV) (bs : List (List AV)) : (start n base args bs).base = base := rfl
@[simp] theorem blocks_start (n base : Nat) (args : List AV) (bs : List (List AV)) : (start n base args bs).blocks = bs := rfl
@[simp] theorem loans_start (n base : Nat) (args : List AV) (bs : List (List AV)) : (start n base args bs).loans t = none := rfl
@[simp] theorem get_mkS (n base : Nat) (live : List (Nat × AV)) (bs : List (List AV)) : (mkS n base live bs).get t = lookD live t := rfl
@[simp] theorem n_mkS (n base : Nat) (live : List (Nat × AV)) (bs : List (List AV)) : (mkS n base live bs).n = n := rfl
@[simp] theorem base_mkS (n base : Nat) (live : List (Nat × AV)) (bs : List (List AV)) : (mkS n base live bs).base = base := rfl
@[simp] theorem blocks_mkS (n base : Nat) (live : List (Nat × AV)) (bs : List (List AV)) : (mkS n base live bs).blocks = bs := rfl
@[simp] theorem loans_mkS (n base : Nat) (live : List (Nat × AV)) (bs : List (List AV)) : (mkS n base live bs).loans t = none := rfl
@[simp] theorem get_fresh : s.fresh.get t = s.get t := rfl
@[simp] theorem n_fresh : s.fresh.n = s.n := rfl
@[simp] theorem base_fresh : s.fresh.base = s.base := rfl
@[simp] theorem blocks_fresh : s.fresh.blocks = s.blocks := rfl
@[simp] theorem loans_fresh : s.fresh.loans t = none := rfl
@[simp] theorem get_put : (s.put d x).get t = if t = d then (if d < s.n then x else s.get t) else s.get t := by
  unfold AState.put; split
  · rename_i h; simp only [AState.get]
  · rename_i h; split <;> rfl
@[simp] theorem n_put : (s.put d x).n = s.n := put_n s d x
@[simp] theorem base_put : (s.put d x).base = s.base := put_base s d x
@[simp] theorem blocks_put : (s.put d x).blocks = s.blocks := put_blocks s d x
@[simp] theorem loans_put : (s.put d x).loans t = if d < s.n then (if t = d then none else if s.loans t = some (.tmp d) then none else s.loans t) else s.loans t := by
  unfold AState.put; split <;> rfl
@[simp] theorem get_setCell : (s.setCell b o x).get t = s.get t := rfl
@[simp] theorem n_setCell : (s.setCell b o x).n = s.n := rfl
@[simp] theorem base_setCell : (s.setCell b o x).base = s.base := rfl
@[simp] theorem blocks_setCell : (s.setCell b o x).blocks = s.blocks.set b ((s.blocks.getD b []).set o x) := rfl
@[simp] theorem loans_setCell : (s.setCell b o x).loans t = if s.loans t = some (.cell b o) then none else s.loans t := rfl
@[simp] theorem get_push : (s.push blk).get t = s.get t := rfl
@[simp] theorem n_push : (s.push blk).n = s.n := rfl
@[simp] theorem base_push : (s.push blk).base = s.base := rfl
@[simp] theorem blocks_push : (s.push blk).blocks = s.blocks ++ [blk] := rfl
@[simp] theorem loans_push : (s.push blk).loans t = s.loans t := rfl
@[simp] theorem get_degT : (s.degrade (.tmp u)).get t = if t = u then (s.get u).copy else s.get t := rfl
@[simp] theorem n_deg (p : Place) : (s.degrade p).n = s.n := by cases p <;> rfl
@[simp] theorem base_deg (p : Place) : (s.degrade p).base = s.base := by cases p <;> rfl
@[simp] theorem blocks_degT : (s.degrade (.tmp u)).blocks = s.blocks := rfl
@[simp] theorem loans_deg (p : Place) : (s.degrade p).loans t = s.loans t := by cases p <;> rfl
@[simp] theorem get_degC : (s.degrade (.cell b o)).get t = s.get t := rfl
@[simp] theorem blocks_degC : (s.degrade (.cell b o)).blocks = s.blocks.set b ((s.blocks.getD b []).set o (((s.blocks.getD b []).getD o .top).copy)) := rfl
end
def AState.lend (s : AState) (d : Nat) (p : Place) : AState := { s with loans := fun t => if t = d then some p else s.loans t }
section
variable (s : AState) (d t : Nat) (p : Place) (x : AV)
@[simp] theorem get_lend : (s.lend d p).get t = s.get t := rfl
@[simp] theorem n_lend : (s.lend d p).n = s.n := rfl
@[simp] theorem base_lend : (s.lend d p).base = s.base := rfl
@[simp] theorem blocks_lend : (s.lend d p).blocks = s.blocks := rfl
@[simp] theorem loans_lend : (s.lend d p).loans t = if t = d then some p else s.loans t := rfl
@[simp] theorem putL_none : s.putL d x none = s.put d x := rfl
@[simp] theorem putL_some : s.putL d x (some p) = if p = .tmp d ∨ s.n ≤ d then s.put d x else (s.put d x).lend d p := rfl
end
def AState.store' (s : AState) (bs : List (List AV)) : AState := { s with blocks := bs, loans := fun t => match s.loans t with | some (.tmp u) => some (.tmp u) | _ => none }
section
variable (s : AState) (t : Nat) (bs : List (List AV))
@[simp] theorem called_eq (d : Option Nat) (res : AV) : s.called d res bs = (s.store' bs).putO d res := rfl
@[simp] theorem get_store' : (s.store' bs).get t = s.get t := rfl
@[simp] theorem n_store' : (s.store' bs).n = s.n := rfl
@[simp] theorem base_store' : (s.store' bs).base = s.base := rfl
@[simp] theorem blocks_store' : (s.store' bs).blocks = bs := rfl
@[simp] theorem loans_store' : (s.store' bs).loans t = match s.loans t with | some (.tmp u) => some (.tmp u) | _ => none := rfl
end
@[simp] theorem AOps_nil (P : Program) (ops : Array Oper) (K : AState → Prop) (s : AState) : AOps P ops K [] s = K s := Eq.trans rfl rfl
@[simp] theorem AOps_cons (P : Program) (ops : Array Oper) (K : AState → Prop) (o : Oper) (l : List Oper) (s : AState) : AOps P ops K (o :: l) s = match o.guard with
    | none => AStep P o s (AOps P ops K l)
    | some (j, want) => GuardAt ((ops[j]?).bind (·.dst)) fun d => GuardV (s.get d) want (AStep P o s (AOps P ops K l)) (AOps P ops K l (s.putO o.dst (.tup []))) := Eq.trans rfl rfl
@[simp] theorem AOpsD_nil (P : Program) (B : List Nat) (ops : Array Oper) (K : AState → Prop) (s : AState) : AOpsD P B ops K [] s = K s := Eq.trans rfl rfl
@[simp] theorem AOpsD_cons (P : Program) (B : List Nat) (ops : Array Oper) (K : AState → Prop) (o : Oper) (l : List Oper) (s : AState) : AOpsD P B ops K (o :: l) s = match o.guard with
    | none => AStepD P B o s (AOpsD P B ops K l)
    | some (j, want) => GuardAt ((ops[j]?).bind (·.dst)) fun d => GuardV (s.get d) want (AStepD P B o s (AOpsD P B ops K l)) (AOpsD P B ops K l (s.putO o.dst (.tup []))) := Eq.trans rfl rfl
attribute [simp] AStep AStepD TailV resTail partV resField resIndexA arrS resIdx resBn resBinN resEmp resIx resIxM resLn resLenM resMk resMakeM sliceLike resSlice3 appCells resAppE oldElemsQ resAppQ resApp absOp absBuiltin resMove resAssign resPick pickV isBool resNew resAlloc resBox bldT markB isAggB loadV resLoad resStore resFieldAddr elems resIndexAddr resExtract resNilCheck
  cmpV intV strV binV resBin resUn resConv resIndex resIface resFunc appElems oldElems resAppend resMM resLen bound resSlice setRange fillA placeOf resBuild resBuildSlice resMake isR callArgs callArgs0 eqTy eqFs
  AState.at AState.ev AState.owner AState.takeV AState.takeS AState.putR AState.putO AState.look AState.loanOf AState.setCells AV.ofConst AV.ofConst1 AV.plain AV.inert AV.flat AV.flatL AV.under AV.underL
  seqK blockK Ret absRes1 absResL oneOf lookD endS Gd
end Go.Abs
set_option linter.unusedVariables false
set_option linter.unusedSimpArgs false
namespace Go.Abs
open Go
def notLoop : Code → Bool
  | .loop _ => false
  | _ => true
theorem AW.step {P : Program} (hm : P.follows .mixedOrders = true) {c : Code} {Q : Exit → AState → Prop} {s : AState} (hc : notLoop c = true) (h : AW P c Q s) : AWp P c Q s := AW.sound hm c Q s h
attribute [simp] AW
theorem awp_inv {P : Program} {c : Code} {Q : Exit → AState → Prop} {s : AState} {α : Type} (I : α → AState) (Inv : α → Prop) (μ : α → Nat) (x0 : α) (hi : Inv x0) (h0 : s.Le (I x0))
    (round : ∀ x, Inv x → AWp P c (seqK (fun s' => ∃ y, s'.Le (I y) ∧ Inv y ∧ μ y < μ x) Q) (I x)) : AWp P (.loop c) Q s := by
  refine awp_loop (fun x : { x : α // Inv x } => I x.1) (fun x => μ x.1) ⟨x0, hi⟩ h0 ?_
  rintro ⟨x, hx⟩
  refine awp_mono (round x hx) fun e s' h => ?_
  cases e with
  | normal => obtain ⟨y, h1, h2, h3⟩ := h; exact ⟨⟨y, h2⟩, h1, h3⟩
  | _ => exact h
end Go.Abs
set_option linter.unusedVariables false
set_option linter.unusedSimpArgs false
namespace Go.Abs
open Go
def PStep (P : Program) (o : Oper) (s s' : AState) : Prop :=
  o.guard = none ∧ ∃ c x f first captured res bs', o.op = .call c ∧ c.callee = .value x ∧ s.look x = .fn (.func f) first captured ∧ Raw P f (callArgs s first captured c.args) s.blocks res bs' ∧ res.owns = false ∧ s' = s.called o.dst res bs'
def pinsOk (ops : Array Oper) (pins : List Nat) : Bool :=
  pins.all fun i => (List.range ops.size).all fun k => k == i || (if k < i then ((ancTable ops.toList).getD i []).contains k else ((ancTable ops.toList).getD k []).contains i)
theorem pins_before {ops : Array Oper} {pins : List Nat} (h : pinsOk ops pins = true) {i k : Nat} (hi : pins.contains i = true) (hk : k < i) (hs : i < ops.size) : k ∈ (ancTable ops.toList).getD i [] := by
  have := (List.all_eq_true.1 ((List.all_eq_true.1 h) i (by simpa using hi))) k (List.mem_range.2 (by omega))
  rw [if_pos hk] at this
  simp only [Bool.or_eq_true, beq_iff_eq, List.contains_iff_mem] at this
  rcases this with h | h
  · omega
  · exact h
theorem pins_after {ops : Array Oper} {pins : List Nat} (h : pinsOk ops pins = true) {i k : Nat} (hk : pins.contains k = true) (hlt : k < i) (hs : i < ops.size) : k ∈ (ancTable ops.toList).getD i [] := by
  have := (List.all_eq_true.1 ((List.all_eq_true.1 h) k (by simpa using hk))) i (List.mem_range.2 hs)
  rw [if_neg (by omega)] at this
  simp only [Bool.or_eq_true, beq_iff_eq, List.contains_iff_mem] at this
  rcases this with h | h
  · omega
  · exact h
def ChainX (P : Program) (B : List Nat) (ops : Array Oper) (pins : List Nat) : List Nat → AState → AState → Prop
  | [], s, s' => s' = s
  | i :: l, s, s' => ∃ o s1, ops[i]? = some o ∧ ((pins.contains i = false ∧ GStep P B ops o s s1) ∨ (pins.contains i = true ∧ PStep P o s s1)) ∧ ChainX P B ops pins l s1 s'
theorem chainX_append {P : Program} {B : List Nat} {ops : Array Oper} {pins : List Nat} : ∀ (l l' : List Nat) (s s' : AState), ChainX P B ops pins (l ++ l') s s' ↔ ∃ m, ChainX P B ops pins l s m ∧ ChainX P B ops pins l' m s'
  | [], l', s, s' => ⟨fun h => ⟨s, rfl, h⟩, fun ⟨m, h1, h2⟩ => by cases h1; exact h2⟩
  | i :: l, l', s, s' => by
    constructor
    · rintro ⟨o, s1, h1, h2, h3⟩
      obtain ⟨m, h4, h5⟩ := (chainX_append l l' s1 s').1 h3
      exact ⟨m, ⟨o, s1, h1, h2, h4⟩, h5⟩
    · rintro ⟨m, ⟨o, s1, h1, h2, h4⟩, h5⟩
      exact ⟨o, s1, h1, h2, (chainX_append l l' s1 s').2 ⟨m, h4, h5⟩⟩
theorem chainX_plain {P : Program} {B : List Nat} {ops : Array Oper} {pins : List Nat} : ∀ {l : List Nat} {s s' : AState}, (∀ k, k ∈ l → pins.contains k = false) → ChainX P B ops pins l s s' → Chain P B ops l s s'
  | [], s, s', _, h => h
  | i :: l, s, s', hp, ⟨o, s1, h1, h2, h3⟩ => by
    refine ⟨o, s1, h1, ?_, chainX_plain (fun k hk => hp k (List.mem_cons_of_mem _ hk)) h3⟩
    rcases h2 with ⟨_, h2⟩ | ⟨h2, _⟩
    · exact h2
    · rw [hp i (List.mem_cons_self ..)] at h2; cases h2
theorem chainX_of {P : Program} {B : List Nat} {ops : Array Oper} {pins : List Nat} : ∀ {l : List Nat} {s s' : AState}, (∀ k, k ∈ l → pins.contains k = false) → Chain P B ops l s s' → ChainX P B ops pins l s s'
  | [], s, s', _, h => h
  | i :: l, s, s', hp, ⟨o, s1, h1, h2, h3⟩ => ⟨o, s1, h1, .inl ⟨hp i (List.mem_cons_self ..), h2⟩, chainX_of (fun k hk => hp k (List.mem_cons_of_mem _ hk)) h3⟩
theorem PStep.frame {P : Program} {o : Oper} {s s' : AState} (h : PStep P o s s') : s'.n = s.n ∧ ∀ t u, s'.loans t = some (.tmp u) → s.loans t = some (.tmp u) ∨ (isMove o.op = true ∧ u ∈ usesOp o.op) := by
  obtain ⟨_, c, x, f, first, captured, res, bs', _, _, _, _, _, rfl⟩ := h
  have hl : ∀ t u, (s.store' bs').loans t = some (.tmp u) → s.loans t = some (.tmp u) := fun t u h => by
    rw [loans_store'] at h
    split at h
    · rename_i v hv; rw [hv]; exact h
    · cases h
  rw [called_eq]
  cases hd : o.dst with
  | none => exact ⟨rfl, fun t u h => .inl (hl t u h)⟩
  | some d =>
    refine ⟨by simp, fun t u h => .inl ?_⟩
    simp only [AState.putO, loans_put] at h
    split at h
    · split at h
      · cases h
      · split at h
        · cases h
        · exact hl t u h
    · exact hl t u h
theorem gp_sound {P : Program} {B : List Nat} {ops : Array Oper} {o : Oper} {s s' : AState} (h : GStep P B ops o s s' ∨ PStep P o s s') {F : Fx} {g : Gh} {a : Act} {w : World} (hs : Sim F g s a w)
    {K : Act → World → Prop} {Q : Exit → Act → World → Prop} (hK : ∀ g' a' w', Sim F g' s' a' w' → K a' w') :
    if Region.wanted o (yielded ops a.tmps) then o.wp P a w K Q else K (a.put o.dst undef) w := by
  rcases h with h | ⟨hg, c, x, f, first, captured, res, bs', ho, hc, hx, h1, h2, rfl⟩
  · exact h.sound hs hK
  · rw [if_pos (by simp [Region.wanted, hg])]
    exact ok_call ho hc hx h1 h2 F g a w hs K Q hK
theorem any_wpX {P : Program} {B : List Nat} {ops : Array Oper} {Q : Exit → Act → World → Prop} {F : Fx} {n : Nat} {pins : List Nat} (hok : regOk B ops n = true) (hpin : pinsOk ops pins = true) : ∀ (fuel : Nat) (listed : Array Bool) (s s' : AState) (g : Gh) (a : Act) (w : World),
    listed.size = ops.size → ((List.range ops.size).filter fun i => !listed.getD i true).length ≤ fuel →
    (∀ (j : Nat) o, ops[j]? = some o → listed.getD j true = true → ∀ e, e ∈ edgesOf o → listed.getD e true = true) →
    ChainX P B ops pins ((List.range ops.size).filter fun i => !listed.getD i true) s s' → Sim F g s a w → LFree ops ((List.range ops.size).filter fun i => !listed.getD i true) s → s.n = n → (∀ g a w, Sim F g s' a w → Q .normal a w) →
    wpAny P .any ops Q fuel listed a w := by
  obtain ⟨hedge, hdst, hcomm⟩ := regOk_spec hok
  have hin : ∀ (listed : Array Bool), listed.size = ops.size → ∀ i, i < ops.size → listed.getD i true = listed.getD i false := fun listed hsz i hi => by
    rw [Array.getD_eq_getD_getElem?, Array.getD_eq_getD_getElem?, Array.getElem?_eq_getElem (by omega)]; rfl
  have hleft : ∀ (listed : Array Bool), listed.size = ops.size → Region.ready .any ops listed = [] → ((List.range ops.size).filter fun i => !listed.getD i true) = [] := fun listed hsz hr => by
    have all : ∀ i, i < ops.size → listed.getD i true = true := by
      intro i
      induction i using Nat.strongRecOn with
      | _ i ih =>
        intro hi
        cases hv : listed.getD i true with
        | true => rfl
        | false =>
          have hmem : i ∈ Region.ready .any ops listed := mem_ready.2 ⟨hv, ops[i], Array.getElem?_eq_getElem hi, fun e he hb => by
            have hlt := hedge i _ (Array.getElem?_eq_getElem hi) e.on (List.mem_map.2 ⟨e, List.mem_filter.2 ⟨by simpa using he, hb⟩, rfl⟩)
            rw [← hin listed hsz e.on (by omega)]; exact ih e.on hlt (by omega)⟩
          rw [hr] at hmem; cases hmem
    rw [List.filter_eq_nil_iff]
    intro i hi
    rw [List.mem_range] at hi
    simp [all i hi]
  intro fuel
  induction fuel with
  | zero =>
    intro listed s s' g a w hsz hlen hcl hc hs hS hn hQ
    have hnil : ((List.range ops.size).filter fun i => !listed.getD i true) = [] := List.eq_nil_of_length_eq_zero (by omega)
    rw [hnil] at hc
    have : s' = s := hc
    subst this
    refine ⟨?_, hQ g a w hs⟩
    cases hr : Region.ready .any ops listed with
    | nil => rfl
    | cons i l =>
      have hi : i ∈ Region.ready .any ops listed := by rw [hr]; exact List.mem_cons_self ..
      obtain ⟨h1, o, h2, _⟩ := mem_ready.1 hi
      have : i ∈ ((List.range ops.size).filter fun i => !listed.getD i true) := List.mem_filter.2 ⟨List.mem_range.2 (lt_of_getElem? h2), by simp [h1]⟩
      rw [hnil] at this; cases this
  | succ fuel ih =>
    intro listed s s' g a w hsz hlen hcl hc hs hS hn hQ
    refine ⟨fun hr => ?_, fun i hi => ?_⟩
    · rw [hleft listed hsz hr] at hc
      have : s' = s := hc
      subst this
      exact hQ g a w hs
    · obtain ⟨h1, o, h2, h3⟩ := mem_ready.1 hi
      have hilt := lt_of_getElem? h2
      have hready : ∀ e, e ∈ edgesOf o → listed.getD e true = true := fun e he => by
        obtain ⟨ed, hed, rfl⟩ := List.mem_map.1 he
        rw [List.mem_filter] at hed
        have := h3 ed (by simpa using hed.1) hed.2
        have hlt := hedge i o h2 ed.on he
        rw [hin listed hsz _ (by omega)]; exact this
      obtain ⟨u1, u2, e1, e2, e3⟩ := filter_split (p := fun i => !listed.getD i true) hilt (by simp [h1])
      have hcm : ∀ k, k ∈ u1 → comm B ops k i = true := fun k hk => by
        obtain ⟨hlt, hk2⟩ := e2 k hk
        rcases hcomm i hilt k hlt with h | h
        · exfalso
          have := mem_anc (ops := ops.toList) (L := fun j => listed.getD j true = true) (fun j o hj => hcl j o (by simpa using hj)) i o (by simpa using h2) hready k h
          rw [this] at hk2; simp at hk2
        · exact h
      have hanc : ∀ k, k ∈ u1 → k ∉ (ancTable ops.toList).getD i [] := fun k hk hm => by
        have := mem_anc (ops := ops.toList) (L := fun j => listed.getD j true = true) (fun j o hj => hcl j o (by simpa using hj)) i o (by simpa using h2) hready k hm
        have h5 := (e2 k hk).2
        rw [this] at h5; cases h5
      rw [e1] at hc
      have hstep : ∃ s1, (GStep P B ops o s s1 ∨ PStep P o s s1) ∧ ChainX P B ops pins (u1 ++ u2) s1 s' := by
        cases hp : pins.contains i with
        | true =>
          have hu : u1 = [] := by
            cases u1 with
            | nil => rfl
            | cons k u1 =>
              exfalso
              have hk := (e2 k (List.mem_cons_self ..)).1
              exact hanc k (List.mem_cons_self ..) (pins_before hpin hp hk hilt)
          subst hu
          obtain ⟨o', s1, q1, q2, q3⟩ := hc
          rw [h2] at q1; cases q1
          rcases q2 with ⟨q2, _⟩ | ⟨_, q2⟩
          · rw [hp] at q2; cases q2
          · exact ⟨s1, .inr q2, q3⟩
        | false =>
          have hnp : ∀ k, k ∈ u1 ++ [i] → pins.contains k = false := fun k hk => by
            rcases List.mem_append.1 hk with hk | hk
            · cases hpk : pins.contains k with
              | false => rfl
              | true => exact absurd (pins_after hpin hpk (e2 k hk).1 hilt) (hanc k hk)
            · rw [List.mem_singleton.1 hk]; exact hp
          rw [show u1 ++ i :: u2 = (u1 ++ [i]) ++ u2 by simp] at hc
          obtain ⟨m, hc1, hc2⟩ := (chainX_append _ _ _ _).1 hc
          obtain ⟨s1, g1, g2⟩ := front h2 u1 s m (chainX_plain hnp hc1) hcm (fun q hq => hS q (by rw [e1]; rcases List.mem_append.1 hq with hq | hq; exact List.mem_append_left _ hq; rw [List.mem_singleton.1 hq]; exact List.mem_append_right _ (List.mem_cons_self ..))) (pairwise_mv (regOk_mv hok) hedge e1) (by rw [hn]; exact hdst) (fun _ t _ => by rw [← hs.sto.len]; exact (hs.tmps t).1.isUnder)
          exact ⟨s1, .inl g1, (chainX_append _ _ _ _).2 ⟨m, chainX_of (fun k hk => hnp k (List.mem_append_left _ hk)) g2, hc2⟩⟩
      obtain ⟨s1, g1, hc'⟩ := hstep
      have hfr : s1.n = s.n ∧ ∀ t u, s1.loans t = some (.tmp u) → s.loans t = some (.tmp u) ∨ (isMove o.op = true ∧ u ∈ usesOp o.op) := by
        rcases g1 with g1 | g1
        · obtain ⟨f1, f2, f3, f4⟩ := gstep_frame g1
          exact ⟨f1, f3⟩
        · exact g1.frame
      obtain ⟨f1, f3⟩ := hfr
      have hS' : LFree ops (u1 ++ u2) s1 := fun q hq oq d hoq hd t hl => by
        have hq' : q ∈ (List.range ops.size).filter fun i => !listed.getD i true := by
          rw [e1]
          rcases List.mem_append.1 hq with hq | hq
          · exact List.mem_append_left _ hq
          · exact List.mem_append_right _ (List.mem_cons_of_mem _ hq)
        rcases f3 t d hl with h | ⟨hm, h⟩
        · exact hS q hq' oq d hoq hd t h
        · have h5 := mem_anc (ops := ops.toList) (L := fun j => listed.getD j true = true) (fun j o hj => hcl j o (by simpa using hj)) i o (by simpa using h2) hready q (mvOk_spec (regOk_mv hok) ⟨o, oq, d, h2, hoq, hm, h, hd⟩)
          rw [List.mem_filter, h5] at hq'
          cases hq'.2
      have hfil : ((List.range ops.size).filter fun k => !(listed.setIfInBounds i true).getD k true) = u1 ++ u2 := by
        rw [← e3]
        apply List.filter_congr
        intro k hk
        rw [List.mem_range] at hk
        rw [getD_listed (n := 0) listed i k true (by omega)]
        by_cases e : k = i
        · simp [e]
        · simp [e]
      have hgo := gp_sound g1 hs (K := wpAny P .any ops Q fuel (listed.setIfInBounds i true)) (Q := Q) (fun g' a' w' hs' =>
        ih (listed.setIfInBounds i true) s1 s' g' a' w' (by simpa using hsz) (by
            rw [hfil]
            have := hlen
            rw [e1] at this
            simp only [List.length_append, List.length_cons] at this ⊢
            omega) (fun j oj hj hl e he => by
            have hjlt := lt_of_getElem? hj
            have helt := hedge j oj hj e he
            rw [getD_listed (n := 0) listed i j true (by omega)] at hl
            rw [getD_listed (n := 0) listed i e true (by omega)]
            split
            · rfl
            · split at hl
              · rename_i hji
                subst hji
                rw [h2] at hj; cases hj
                exact hready e he
              · exact hcl j oj hj hl e he) (by rw [hfil]; exact hc') hs' (by rw [hfil]; exact hS') (by rw [f1]; exact hn) hQ)
      unfold wpOp
      simp only [h2]
      split
      · rename_i hw; rw [if_pos hw] at hgo; exact .inl hgo
      · rename_i hw; rw [if_neg hw] at hgo; exact hgo
def CallX (P : Program) (f : FuncId) (args : List AV) (s : AState) (dst : Option Nat) (K : AState → Prop) : Prop :=
  ∃ res bs', Raw P f args s.blocks res bs' ∧ res.owns = false ∧ K (s.called dst res bs')
@[congr] theorem CallX_congr {P : Program} {f : FuncId} {args args' : List AV} {s : AState} {dst : Option Nat} {K : AState → Prop} (h : args = args') : CallX P f args s dst K = CallX P f args' s dst K := by rw [h]
theorem callX {P : Program} {f : FuncId} {args : List AV} {s : AState} {dst : Option Nat} {K : AState → Prop} {res : AV} {bs bs' : List (List AV)} (h : Raw P f args bs res bs') (h1 : s.blocks = bs) (h2 : res.owns = false) (h3 : K (s.called dst res bs')) : CallX P f args s dst K :=
  ⟨res, bs', by rw [h1]; exact h, h2, h3⟩
def AStepX (P : Program) (o : Oper) (s : AState) (K : AState → Prop) : Prop :=
  match o.guard, o.op with
  | none, .call c => match c.callee with
    | .value x => match s.look x with
      | .fn (.func f) first captured => CallX P f (callArgs s first captured c.args) s o.dst K
      | _ => False
    | _ => False
  | _, _ => False
@[congr] theorem AStepX_congr {P : Program} {o : Oper} {s s' : AState} {K : AState → Prop} (h : s = s') : AStepX P o s K = AStepX P o s' K := by rw [h]
theorem AStepX.ok {P : Program} {o : Oper} {s : AState} {K : AState → Prop} (h : AStepX P o s K) : ∃ s', PStep P o s s' ∧ K s' := by
  unfold AStepX at h
  split at h
  · rename_i c hg ho
    split at h
    · rename_i x hc
      split at h
      · rename_i f first captured hx
        obtain ⟨res, bs', h1, h2, h3⟩ := h
        exact ⟨_, ⟨hg, c, x, f, first, captured, res, bs', ho, hc, hx, h1, h2, rfl⟩, h3⟩
      · exact h.elim
    · exact h.elim
  · exact h.elim
def AOpsX (P : Program) (B : List Nat) (ops : Array Oper) (pins : List Nat) (K : AState → Prop) : List Oper → Nat → AState → Prop
  | [], _, s => K s
  | o :: l, k, s => if pins.contains k then AStepX P o s (AOpsX P B ops pins K l (k + 1)) else match o.guard with
    | none => AStepD P B o s (AOpsX P B ops pins K l (k + 1))
    | some (j, want) => GuardAt ((ops[j]?).bind (·.dst)) fun d => GuardV (s.get d) want (AStepD P B o s (AOpsX P B ops pins K l (k + 1))) (AOpsX P B ops pins K l (k + 1) (s.putO o.dst (.tup [])))
@[congr] theorem AOpsX_congr {P : Program} {B : List Nat} {ops : Array Oper} {pins : List Nat} {K : AState → Prop} {l : List Oper} {k k' : Nat} {s s' : AState} (hk : k = k') (h : s = s') : AOpsX P B ops pins K l k s = AOpsX P B ops pins K l k' s' := by rw [h, hk]
theorem AOpsX.chain {P : Program} {B : List Nat} {ops : Array Oper} {pins : List Nat} {K : AState → Prop} : ∀ (l : List Oper) (k : Nat) (s : AState), (∀ j, l[j]? = ops[k + j]?) → AOpsX P B ops pins K l k s →
    ∃ s', ChainX P B ops pins (List.range' k l.length) s s' ∧ K s' := by
  intro l
  induction l with
  | nil => exact fun k s _ h => ⟨s, rfl, h⟩
  | cons o l ih =>
    intro k s hl h
    have h0 : ops[k]? = some o := by simpa using (hl 0).symm
    have hl' : ∀ j, l[j]? = ops[k + 1 + j]? := fun j => by have := hl (j + 1); simpa [Nat.add_assoc, Nat.add_comm 1 j] using this
    unfold AOpsX at h
    cases hp : pins.contains k with
    | true =>
      rw [if_pos hp] at h
      obtain ⟨s1, h1, h2⟩ := h.ok
      obtain ⟨s', h3, h4⟩ := ih (k + 1) s1 hl' h2
      refine ⟨s', ?_, h4⟩
      rw [List.length_cons, List.range'_succ]
      exact ⟨o, s1, h0, .inr ⟨hp, h1⟩, h3⟩
    | false =>
    rw [if_neg (by rw [hp]; simp)] at h
    have go : ∀ s1, GStep P B ops o s s1 → AOpsX P B ops pins K l (k + 1) s1 → ∃ s', ChainX P B ops pins (List.range' k (o :: l).length) s s' ∧ K s' := fun s1 h1 h2 => by
      obtain ⟨s', h3, h4⟩ := ih (k + 1) s1 hl' h2
      refine ⟨s', ?_, h4⟩
      rw [List.length_cons, List.range'_succ]
      exact ⟨o, s1, h0, .inl ⟨hp, h1⟩, h3⟩
    cases hg : o.guard with
    | none =>
      rw [hg] at h
      obtain ⟨s1, h1, h2⟩ := AStepD.ok h
      exact go s1 (by unfold GStep; rw [hg]; exact h1) h2
    | some q =>
      obtain ⟨j, want⟩ := q
      rw [hg] at h
      simp only [GuardAt] at h
      split at h
      · rename_i d hd
        unfold GuardV at h
        split at h
        · rename_i b hb
          by_cases hw : b = want
          · obtain ⟨s1, h1, h2⟩ := (h.1 hw).ok
            exact go s1 (by unfold GStep; rw [hg]; exact ⟨d, hd, .inl ⟨b, hb, .inl ⟨hw, h1⟩⟩⟩) h2
          · have hw' : b = !want := by clear h; revert hw; cases b <;> cases want <;> decide
            exact go _ (by unfold GStep; rw [hg]; exact ⟨d, hd, .inl ⟨b, hb, .inr ⟨hw', rfl⟩⟩⟩) (h.2 hw')
        · rename_i hb
          exact go _ (by unfold GStep; rw [hg]; exact ⟨d, hd, .inr ⟨hb, rfl⟩⟩) h
        · exact h.elim
      · exact h.elim
theorem awp_region_pin (B : List Nat) (pins : List Nat) {P : Program} (hm : P.follows .mixedOrders = true) {id : Nat} {ops : Array Oper} {Q : Exit → AState → Prop} {s : AState} {n : Nat} (hn : s.n = n) (hok : regOk B ops n = true) (hpin : pinsOk ops pins = true)
    (h : AOpsX P B ops pins (Q .normal) ops.toList 0 s.fresh) : AWp P (.region id ops true) Q s := fun F g a w hs => by
  obtain ⟨s', h1, h2⟩ := AOpsX.chain ops.toList 0 s.fresh (fun j => by simp) h
  refine wp_region_any hm (any_wpX (F := F) (n := n) hok hpin ops.size _ s.fresh s' g a _ (by simp) ?_ ?_ ?_ hs.fresh.drew (fun _ _ _ _ _ _ t hl => by cases hl) hn (fun g a w hs' => ⟨g, s', hs', h2⟩))
  · exact Nat.le_trans (List.length_filter_le _ _) (by simp)
  · intro j o hj hl
    have : (Array.replicate ops.size false).getD j true = false := by
      have := lt_of_getElem? hj
      rw [Array.getD_eq_getD_getElem?, Array.getElem?_replicate, if_pos this]; rfl
    rw [this] at hl; cases hl
  · have hall : ((List.range ops.size).filter fun i => !(Array.replicate ops.size false).getD i true) = List.range ops.size := by
      rw [List.filter_eq_self]
      intro i hi
      rw [List.mem_range] at hi
      rw [Array.getD_eq_getD_getElem?, Array.getElem?_replicate, if_pos hi]; rfl
    rw [hall, List.range_eq_range']
    simpa using h1
@[simp] theorem AOpsX_nil (P : Program) (B : List Nat) (ops : Array Oper) (pins : List Nat) (K : AState → Prop) (k : Nat) (s : AState) : AOpsX P B ops pins K [] k s = K s := Eq.trans rfl rfl
@[simp] theorem AOpsX_cons (P : Program) (B : List Nat) (ops : Array Oper) (pins : List Nat) (K : AState → Prop) (o : Oper) (l : List Oper) (k : Nat) (s : AState) : AOpsX P B ops pins K (o :: l) k s = if pins.contains k then AStepX P o s (AOpsX P B ops pins K l (k + 1)) else match o.guard with
    | none => AStepD P B o s (AOpsX P B ops pins K l (k + 1))
    | some (j, want) => GuardAt ((ops[j]?).bind (·.dst)) fun d => GuardV (s.get d) want (AStepD P B o s (AOpsX P B ops pins K l (k + 1))) (AOpsX P B ops pins K l (k + 1) (s.putO o.dst (.tup []))) := Eq.trans rfl rfl
attribute [simp] AStepX
end Go.Abs
set_option linter.unusedVariables false
set_option linter.unusedSimpArgs false
namespace Go.Abs
open Go
@[simp] def leTmps (s : AState) : List (Nat × AV) → Prop
  | [] => True
  | (t, x) :: l => leAV (s.get t) x ∧ leTmps s l
@[simp] def underTmps (m : Nat) : List (Nat × AV) → Bool
  | [] => true
  | (_, x) :: l => x.under m && underTmps m l
@[simp] def underBlocks (m : Nat) : List (List AV) → Bool
  | [] => true
  | b :: l => AV.underL m b && underBlocks m l
theorem leTmps.get {s : AState} : ∀ {l : List (Nat × AV)}, leTmps s l → ∀ q, q ∈ l → leAV (s.get q.1) q.2
  | [], _, q, hq => by cases hq
  | (t, x) :: l, h, q, hq => by
    rcases List.mem_cons.1 hq with rfl | hq
    · exact h.1
    · exact leTmps.get h.2 q hq
theorem underTmps_get {m : Nat} : ∀ {l : List (Nat × AV)}, underTmps m l = true → ∀ q, q ∈ l → q.2.under m = true
  | [], _, q, hq => by cases hq
  | (t, x) :: l, h, q, hq => by
    simp only [underTmps, Bool.and_eq_true] at h
    rcases List.mem_cons.1 hq with rfl | hq
    · exact h.1
    · exact underTmps_get h.2 q hq
theorem underBlocks_get {m : Nat} : ∀ {l : List (List AV)}, underBlocks m l = true → ∀ b, b ∈ l → AV.underL m b = true
  | [], _, b, hb => by cases hb
  | x :: l, h, b, hb => by
    simp only [underBlocks, Bool.and_eq_true] at h
    rcases List.mem_cons.1 hb with rfl | hb
    · exact h.1
    · exact underBlocks_get h.2 b hb
def LeB (s : AState) (n base : Nat) (live : List (Nat × AV)) (blocks : List (List AV)) : Prop :=
  s.n = n ∧ s.base = base ∧ base ≤ blocks.length ∧ leTmps s live ∧ leBlocks s.blocks blocks ∧
    (s.blocks.length = blocks.length ∨ (underTmps blocks.length live = true ∧ underBlocks blocks.length blocks = true))
attribute [simp] LeB
theorem le_mkS {s : AState} {n base : Nat} {live : List (Nat × AV)} {blocks : List (List AV)} (h : LeB s n base live blocks) : s.Le (mkS n base live blocks) := by
  obtain ⟨h1, h2, h3, h4, h5, h6⟩ := h
  refine Le.lit h1 h2 h3 h4.get h5 ?_
  rcases h6 with h6 | ⟨h6, h7⟩
  · exact .inl h6
  · exact .inr ⟨underTmps_get h6, underBlocks_get h7⟩
def cutK (n base : Nat) (live : List (Nat × AV)) (blocks : List (List AV)) (Q : Exit → AState → Prop) : Exit → AState → Prop
  | .normal, s => LeB s n base live blocks
  | e, s => Q e s
attribute [simp] cutK
theorem cut {P : Program} {x y : Code} {Q : Exit → AState → Prop} {s : AState} (n base : Nat) (live : List (Nat × AV)) (blocks : List (List AV)) (h1 : AWp P x (cutK n base live blocks Q) s) (h2 : AWp P y Q (mkS n base live blocks)) :
    AWp P (.seq x y) Q s :=
  awp_seq (awp_mono h1 fun e s' hq => by
    cases e with
    | normal => exact awp_le h2 (le_mkS hq)
    | _ => exact hq)
theorem last {P : Program} {x : Code} {Q : Exit → AState → Prop} {s : AState} (n base : Nat) (live : List (Nat × AV)) (blocks : List (List AV)) (h1 : AWp P x (cutK n base live blocks Q) s)
    (h2 : ∀ s', s'.Le (mkS n base live blocks) → Q .normal s') : AWp P x Q s :=
  awp_mono h1 fun e s' hq => by
    cases e with
    | normal => exact h2 s' (le_mkS hq)
    | _ => exact hq
theorem condT {P : Program} {c : Operand} {x y : Code} {Q : Exit → AState → Prop} {s : AState} {b : Bool} (hc : s.look c = .bool b) (hb : b = true) (h : AWp P x Q s) : AWp P (.cond c x y) Q s :=
  awp_cond hc (fun _ => h) (fun e => by rw [hb] at e; cases e)
theorem condF {P : Program} {c : Operand} {x y : Code} {Q : Exit → AState → Prop} {s : AState} {b : Bool} (hc : s.look c = .bool b) (hb : b = false) (h : AWp P y Q s) : AWp P (.cond c x y) Q s :=
  awp_cond hc (fun e => by rw [hb] at e; cases e) (fun _ => h)
theorem spc {α : Type} {P : Program} {c : Operand} {x y : Code} {Q : Exit → AState → Prop} {s : AState} {b : Bool} {u v : Option α} {r : α} (h : (if b = true then u else v) = some r) (hc : s.look c = .bool b) (h1 : b = true → u = some r → AWp P x Q s) (h2 : b = false → v = some r → AWp P y Q s) : AWp P (.cond c x y) Q s := by
  cases b with
  | true => exact condT hc rfl (h1 rfl h)
  | false => exact condF hc rfl (h2 rfl h)
theorem factI (t : Nat) {P : Program} {c : Code} {Q : Exit → AState → Prop} {s : AState} {k : IntKind} {n : Int} (ht : s.get t = .int k n) (h : inR k n → AWp P c Q s) : AWp P c Q s := fun F g a w hs => by
  have := (hs.tmps t).1
  rw [show s.tmps t = .int k n from ht] at this
  exact h (rep_inR this) F g a w hs
theorem factL (t : Nat) {P : Program} {c : Code} {Q : Exit → AState → Prop} {s : AState} {l : List (List AV)} (ht : elems (s.get t) = some l) (h : l.length ≤ 281474976710656 → AWp P c Q s) : AWp P c Q s := fun F g a w hs => by
  obtain ⟨_, _, _, _, hb, _⟩ := rep_elems (hs.tmps t).1 ht
  exact h hb F g a w hs
theorem rep_short {imm : Addr → Option Value} {σ : List Nat} {l : List UInt8} {v : Value} (h : Rep imm σ (.str l) v) : l.length ≤ 1152921504606846976 := by cases h; assumption
theorem factS (t : Nat) {P : Program} {c : Code} {Q : Exit → AState → Prop} {s : AState} {l : List UInt8} (ht : s.get t = .str l) (h : l.length ≤ 1152921504606846976 → AWp P c Q s) : AWp P c Q s := fun F g a w hs => by
  have := (hs.tmps t).1
  rw [show s.tmps t = .str l from ht] at this
  exact h (rep_short this) F g a w hs
theorem Sim.cellRep {F : Fx} {g : Gh} {s : AState} {a : Act} {w : World} (h : Sim F g s a w) {b o : Nat} {blk : List AV} {x : AV} (hb : s.blocks[b]? = some blk) (hx : blk[o]? = some x) : ∃ v, Rep g.imm g.σ x v := by
  have hlt : b < g.σ.length := by rw [h.sto.len]; exact (List.getElem?_eq_some_iff.1 hb).1
  obtain ⟨c, ty, _, _, h3⟩ := h.sto.blk b blk _ hb (List.getElem?_eq_getElem hlt)
  exact ⟨_, (h3 o x hx).2.1⟩
theorem factCL (b o : Nat) {P : Program} {c : Code} {Q : Exit → AState → Prop} {s : AState} {blk : List AV} {x : AV} {l : List (List AV)} (hb : s.blocks[b]? = some blk) (hx : blk[o]? = some x) (hl : elems x = some l)
    (h : l.length ≤ 281474976710656 → AWp P c Q s) : AWp P c Q s := fun F g a w hs => by
  obtain ⟨v, hv⟩ := hs.cellRep hb hx
  obtain ⟨_, _, _, _, h1, _⟩ := rep_elems hv hl
  exact h h1 F g a w hs
theorem factCS (b o : Nat) {P : Program} {c : Code} {Q : Exit → AState → Prop} {s : AState} {blk : List AV} {l : List UInt8} (hb : s.blocks[b]? = some blk) (hx : blk[o]? = some (.str l))
    (h : l.length ≤ 1152921504606846976 → AWp P c Q s) : AWp P c Q s := fun F g a w hs => by
  obtain ⟨v, hv⟩ := hs.cellRep hb hx
  exact h (rep_short hv) F g a w hs
theorem factCI (b o : Nat) {P : Program} {c : Code} {Q : Exit → AState → Prop} {s : AState} {blk : List AV} {k : IntKind} {n : Int} (hb : s.blocks[b]? = some blk) (hx : blk[o]? = some (.int k n))
    (h : inR k n → AWp P c Q s) : AWp P c Q s := fun F g a w hs => by
  obtain ⟨v, hv⟩ := hs.cellRep hb hx
  exact h (rep_inR hv) F g a w hs
theorem bs {α β : Type} {x : Option α} {f : α → Option β} {r : β} (h : x.bind f = some r) : ∃ v, x = some v ∧ f v = some r := by
  cases x with
  | none => cases h
  | some v => exact ⟨v, rfl, h⟩
theorem sp {α : Type} {c : Bool} {x y : Option α} {r : α} (h : (if c = true then x else y) = some r) : (c = true ∧ x = some r) ∨ (c = false ∧ y = some r) := by
  cases c with
  | true => exact .inl ⟨rfl, h⟩
  | false => exact .inr ⟨rfl, h⟩
theorem tf (c : Bool) : c = true ∨ c = false := by cases c <;> simp
theorem ltT {a b : Int} (h : ltI a b = true) : a < b := of_decide_eq_true h
theorem ltF {a b : Int} (h : ltI a b = false) : b ≤ a := by have := of_decide_eq_false h; omega
theorem leT {a b : Int} (h : leI a b = true) : a ≤ b := of_decide_eq_true h
theorem leF {a b : Int} (h : leI a b = false) : b < a := by have := of_decide_eq_false h; omega
theorem eqT {a b : Int} (h : eqI a b = true) : a = b := of_decide_eq_true h
theorem eqF {a b : Int} (h : eqI a b = false) : a ≠ b := of_decide_eq_false h
theorem notT {b : Bool} (h : (!b) = true) : b = false := by cases b <;> simp_all
theorem notF {b : Bool} (h : (!b) = false) : b = true := by cases b <;> simp_all
theorem andT {a b : Bool} (h : (a && b) = true) : a = true ∧ b = true := by cases a <;> simp_all
theorem orF {a b : Bool} (h : (a || b) = false) : a = false ∧ b = false := by cases a <;> simp_all
@[simp] theorem unU_nil : unU [] = [] := rfl
@[simp] theorem unU_cons (k : IntKind) (n : Int) (l : List (List AV)) : unU ([.int k n] :: l) = UInt8.ofNat n.toNat :: unU l := rfl
@[simp] theorem u8max {n : Int} (h : Rng .u8 n) : max n 0 % 256 = n := by
  have h1 : 0 ≤ n ∧ n ≤ 255 := h
  omega
theorem oi {α : Type} {a b : α} (h : some a = some b) : a = b := Option.some.inj h
def bytesC (l : List UInt8) : Option (List UInt8) := if l.length ≤ 281474976710656 then some l else none
theorem bytesC_ok {l r : List UInt8} (h : bytesC l = some r) : r.length ≤ 281474976710656 ∧ l = r := by
  unfold bytesC at h
  split at h
  · cases h; exact ⟨by assumption, rfl⟩
  · cases h
def chk (k : IntKind) (n : Int) : Option Int := if inR k n then some n else none
theorem chk_ok {k : IntKind} {n r : Int} (h : chk k n = some r) : Rng k r ∧ n = r := by
  unfold chk at h; split at h
  · cases h; exact ⟨‹_›, rfl⟩
  · cases h
def idx {α : Type} (l : List α) (n : Int) : Option α := if 0 ≤ n then l[n.toNat]? else none
theorem litIdx {α β : Type} {l : List α} {i : Nat} {x : α} (f : α → β) (h : l[i]? = some x) : (l.map f)[i]? = some (f x) := by rw [List.getElem?_map, h]; rfl
theorem idxp_ok {α : Type} {l : List α} {n : Nat} {x : α} (h : idx l ((n : Int) - 1) = some x) : (1 ≤ (n : Int)) ∧ l[n - 1]? = some x := by
  unfold idx at h
  split at h
  · rename_i h0
    refine ⟨by omega, ?_⟩
    rw [show ((n : Int) - 1).toNat = n - 1 by omega] at h
    exact h
  · cases h
theorem idx_ok {α : Type} {l : List α} {n : Int} {x : α} (h : idx l n = some x) : 0 ≤ n ∧ l[n.toNat]? = some x := by
  unfold idx at h; split at h
  · exact ⟨‹_›, h⟩
  · cases h
def app {α : Type} (b : Nat) (x y : List α) : Option (List α) := if 0 < b ∧ (x.length + y.length) * b ≤ 140737488355328 then some (x ++ y) else none
theorem app_ok {α : Type} {b : Nat} {x y r : List α} (h : app b x y = some r) : Fits b (x.length + y.length) ∧ r = x ++ y := by
  unfold app at h; split at h
  · cases h; exact ⟨‹_›, rfl⟩
  · cases h
theorem lit_ok {α : Type} {a v : α} (h : some a = some v) : v = a ∧ True := ⟨(Option.some.inj h).symm, trivial⟩
@[simp] theorem nn1 (n : Nat) : (0 : Int) ≤ (n : Int) + 1 := by omega
@[simp] theorem nn2 (n : Nat) : (0 : Int) ≤ (n : Int) + 1 + 1 := by omega
@[simp] theorem nn3 (n : Nat) : (0 : Int) ≤ (n : Int) + 2 := by omega
def growC (b n : Int) : Option Unit := if 0 ≤ n ∧ n * b ≤ 140737488355328 then some () else none
theorem growC_ok {b n : Int} {u : Unit} (h : growC b n = some u) : 0 ≤ n ∧ n * b ≤ 140737488355328 := by
  unfold growC at h; split at h
  · rename_i h0; exact h0
  · cases h
def mkC (b n : Int) : Option Unit := if 0 ≤ n ∧ b * n ≤ 281474976710656 ∧ n ≤ 9223372036854775807 then some () else none
theorem mkC_ok {b n : Int} {u : Unit} (h : mkC b n = some u) : 0 ≤ n ∧ (b * n ≤ 281474976710656 ∧ n ≤ 9223372036854775807) := by
  unfold mkC at h; split at h
  · rename_i h0; exact h0
  · cases h
def cat (x y : List UInt8) : Option (List UInt8) := if x.length + y.length ≤ 1152921504606846976 then some (x ++ y) else none
theorem cat_ok {x y r : List UInt8} (h : cat x y = some r) : Short x y ∧ x ++ y = r := by
  unfold cat at h; split at h
  · cases h; exact ⟨‹_›, rfl⟩
  · cases h
def subC {α : Type} (l : List α) (a b : Int) : Option (List α) := if 0 ≤ a ∧ a ≤ b ∧ b ≤ l.length then some (sub l a b) else none
theorem subC_ok {α : Type} {l : List α} {a b : Int} {r : List α} (h : subC l a b = some r) : InB a b l.length ∧ sub l a b = r := by
  unfold subC at h; split at h
  · cases h; exact ⟨‹_›, rfl⟩
  · cases h
attribute [simp] inR Value.cells
@[simp] theorem ba_size (a : Array UInt8) : (ByteArray.mk a).size = a.size := rfl
theorem EL_nil (n : Nat) : EL n [] := fun e h => by cases h
theorem EL_map {α : Type} {n : Nat} {f : α → List AV} (hf : ∀ x, (f x).length = n) (l : List α) : EL n (l.map f) := fun e h => by
  obtain ⟨x, _, rfl⟩ := List.mem_map.1 h; exact hf x
theorem okE_map {α : Type} {n : Nat} {f : α → List AV} (hf : ∀ x, (f x).length = n ∧ (f x).all AV.inert = true) (l : List α) : okElems n (l.map f) := fun e h => by
  obtain ⟨x, _, rfl⟩ := List.mem_map.1 h; exact hf x
@[simp] theorem okE_nil (n : Nat) : okElems n [] := fun e h => by cases h
@[simp] theorem okE_cons (n : Nat) (e : List AV) (l : List (List AV)) : okElems n (e :: l) ↔ (e.length = n ∧ e.all AV.inert = true) ∧ okElems n l := by
  unfold okElems; simp
@[simp] theorem sub_map {α β : Type} (f : α → β) (l : List α) (a b : Int) : sub (l.map f) a b = (sub l a b).map f := by
  unfold sub; simp
@[simp] def cI (k : IntKind) (n : Int) : List AV := [.int k n]
@[simp] def cB (b : Bool) : List AV := [.bool b]
@[simp] def cS (l : List UInt8) : List AV := [.str l]
@[simp] def cL {α : Type} (f : α → List AV) (l : List α) : List AV := [.sl (l.map f)]
@[simp] theorem okE_cI (k : IntKind) (l : List Int) : okElems 1 (l.map (cI k)) := okE_map (fun x => by simp) l
@[simp] theorem okE_cB (l : List Bool) : okElems 1 (l.map cB) := okE_map (fun x => by simp) l
@[simp] theorem okE_cS (l : List (List UInt8)) : okElems 1 (l.map cS) := okE_map (fun x => by simp) l
@[simp] theorem okE_cU (l : List UInt8) : okElems 1 (l.map cU) := okE_map (fun x => by simp) l
@[simp] theorem okE_cL {α : Type} (f : α → List AV) (l : List (List α)) : okElems 1 (l.map (cL f)) := okE_map (fun x => by simp) l
@[simp] theorem EL_cI (k : IntKind) (l : List Int) : EL 1 (l.map (cI k)) := EL_map (fun x => by simp) l
@[simp] theorem EL_cB (l : List Bool) : EL 1 (l.map cB) := EL_map (fun x => by simp) l
@[simp] theorem EL_cS (l : List (List UInt8)) : EL 1 (l.map cS) := EL_map (fun x => by simp) l
@[simp] theorem EL_cU (l : List UInt8) : EL 1 (l.map cU) := EL_map (fun x => by simp) l
@[simp] theorem EL_cL {α : Type} (f : α → List AV) (l : List (List α)) : EL 1 (l.map (cL f)) := EL_map (fun x => by simp) l
@[simp] theorem byteElems_map (l : List UInt8) : byteElems l = l.map cU := rfl
theorem awp_skip {P : Program} {Q : Exit → AState → Prop} {s : AState} (h : Q .normal s) : AWp P .skip Q s := fun F g a w hs => wp_skip ⟨g, s, hs, h⟩
theorem awp_exit {P : Program} {id : Nat} {Q : Exit → AState → Prop} {s : AState} (h : Q (.exit id) s) : AWp P (.exit id) Q s := fun F g a w hs => wp_exit ⟨g, s, hs, h⟩
theorem awp_ret {P : Program} {Q : Exit → AState → Prop} {s : AState} (h : Q .ret s) : AWp P .ret Q s := fun F g a w hs => wp_ret ⟨g, s, hs, h⟩
theorem seq_le {P : Program} {y : Code} {Q : Exit → AState → Prop} {s t : AState} (h : AWp P y Q t) (hs : s.Le t) : seqK (AWp P y Q) Q .normal s := awp_le h hs
theorem seq_eq {P : Program} {y : Code} {Q : Exit → AState → Prop} {s : AState} (h : AWp P y Q s) : seqK (AWp P y Q) Q .normal s := h
theorem blk_n {id : Nat} {Q : Exit → AState → Prop} {s : AState} (h : Q .normal s) : blockK id Q .normal s := h
theorem exit_seq {id : Nat} {N : AState → Prop} {Q : Exit → AState → Prop} {s : AState} (h : Q (.exit id) s) : seqK N Q (.exit id) s := h
theorem exit_blk {id : Nat} {Q : Exit → AState → Prop} {s : AState} (h : Q .normal s) : blockK id Q (.exit id) s := by
  show (if id = id then Q .normal s else Q (.exit id) s); rw [if_pos rfl]; exact h
theorem exit_blk_ne {i id : Nat} {Q : Exit → AState → Prop} {s : AState} (hn : i ≠ id) (h : Q (.exit i) s) : blockK id Q (.exit i) s := by
  show (if i = id then Q .normal s else Q (.exit i) s); rw [if_neg hn]; exact h
theorem ret_seq {N : AState → Prop} {Q : Exit → AState → Prop} {s : AState} (h : Q .ret s) : seqK N Q .ret s := h
theorem ret_blk {id : Nat} {Q : Exit → AState → Prop} {s : AState} (h : Q .ret s) : blockK id Q .ret s := h
theorem retL {R V A : Type} {a : R} {o : R ⊕ V} {f : R → Option A} {g : V → Option A} {r : A} (l : some (Sum.inl a) = some o) (h : Sum.elim f g o = some r) : f a = some r := by cases l; exact h
theorem exitR {R V A : Type} {a : V} {o : R ⊕ V} {f : R → Option A} {g : V → Option A} {r : A} (l : some (Sum.inr a) = some o) (h : Sum.elim f g o = some r) : ∃ v, a = v ∧ g v = some r := by
  cases l; exact ⟨a, rfl, h⟩
theorem elimR {R V A : Type} {v : V} {f : R → Option A} {g : V → Option A} {r : A} (h : Sum.elim f g (.inr v) = some r) : g v = some r := h
theorem exit1 {V A : Type} {a o : V} {g : V → Option A} {r : A} (l : some a = some o) (h : g o = some r) : ∃ v, a = v ∧ g v = some r := by cases l; exact ⟨a, rfl, h⟩
theorem drop_nil {α : Type} {l : List α} {i : Nat} (h : l.drop i = []) : ltI (i : Int) (l.length : Int) = false := by
  have := List.drop_eq_nil_iff.1 h
  exact decide_eq_false (by omega)
theorem drop_cons {α : Type} {l r : List α} {i : Nat} {x : α} (h : l.drop i = x :: r) : ltI (i : Int) (l.length : Int) = true ∧ l[i]? = some x ∧ l.drop (i + 1) = r ∧ (i : Int) < l.length := by
  have hi : i < l.length := by
    rcases Nat.lt_or_ge i l.length with h1 | h1
    · exact h1
    · rw [List.drop_eq_nil_of_le h1] at h; cases h
  rw [List.drop_eq_getElem_cons hi] at h
  simp only [List.cons.injEq] at h
  exact ⟨decide_eq_true (by omega), by rw [List.getElem?_eq_getElem hi, h.1], h.2, by omega⟩
theorem rng_nil {i : Nat} {n : Int} (h : i + 0 = n.toNat) : ltI (i : Int) n = false := decide_eq_false (by omega)
theorem rng_cons {i k : Nat} {n : Int} (h : i + (k + 1) = n.toNat) : ltI (i : Int) n = true ∧ i + 1 + k = n.toNat ∧ (i : Int) < n := ⟨decide_eq_true (by omega), by omega, by omega⟩
def EndB (s : AState) (bs : List (List AV)) : Prop := s.base ≤ bs.length ∧ leBlocks s.blocks bs ∧ (s.blocks.length = bs.length ∨ underBlocks bs.length bs = true)
attribute [simp] EndB
theorem EndB.le {s : AState} {bs : List (List AV)} (h : EndB s bs) : s.Le (endS s bs) where
  tmps := fun t => by show leAV _ .top; cases s.tmps t <;> simp
  loans := fun t => rfl
  n := rfl
  base := rfl
  hbase := h.1
  short := h.2.1.get.1
  blocks := fun b blk' hb' => by
    obtain ⟨blk, e1, e2⟩ := h.2.1.get.2 b blk' hb'
    exact ⟨blk, e1, e2.get.1, e2.get.2⟩
  below := by
    rcases h.2.2 with h1 | h1
    · exact .inl h1.symm
    · exact .inr ⟨fun t => by simp [endS], allBelow_of (underBlocks_get h1)⟩
theorem raw_of_bodyB {P : Program} {f : FuncId} {fn : Func} {c : Code} {args : List AV} {bs bs' : List (List AV)} {res : AV} (hf : P.funcs[f]? = some fn) (hname : (fn.name == "runtime.NumGoroutine") = false) (hb : fn.body = some c)
    (hn : args.length ≤ fn.ntmps) (hown : args.all (fun x => !x.owns) = true)
    (h : AWp P c (Ret P fn fun r s => r = res ∧ EndB s bs' ∧ (bs'.length = s.blocks.length ∨ res.under bs'.length = true)) (start fn.ntmps bs.length args bs)) : Raw P f args bs res bs' :=
  raw_of_body hf hname hb hn hown fun _ => awp_mono h fun e s hq => by
    cases e with
    | normal =>
      simp only [Ret] at hq ⊢
      split at hq
      · exact ⟨hq.1, hq.2.1, hq.2.2.1.le, hq.2.2.2⟩
      · exact hq.elim
    | ret =>
      simp only [Ret] at hq ⊢
      split at hq
      · exact ⟨hq.1, hq.2.1, hq.2.2.1.le, hq.2.2.2⟩
      · exact hq.elim
    | _ => exact hq
end Go.Abs
set_option linter.unusedVariables false
set_option linter.unusedSimpArgs false
namespace Go.Abs
open Go
mutual
def AV.ren (f : Nat → Nat) : AV → AV
  | .mptr b o => .mptr (f b) o
  | .baddr t b => .baddr t (f b)
  | .msl b e n => .msl (f b) e n
  | .fn g fs cs => .fn g (AV.renL f fs) (AV.renL f cs)
  | .iface t v => .iface t (v.ren f)
  | .agg cs => .agg (AV.renL f cs)
  | .tup cs => .tup (AV.renL f cs)
  | x => x
def AV.renL (f : Nat → Nat) : List AV → List AV
  | [] => []
  | x :: l => x.ren f :: AV.renL f l
end
theorem renL_get (f : Nat → Nat) : ∀ (l : List AV) (i : Nat), (AV.renL f l)[i]? = l[i]?.map (AV.ren f)
  | [], i => by simp [AV.renL]
  | x :: l, 0 => by simp [AV.renL]
  | x :: l, i + 1 => by simp [AV.renL, renL_get f l i]
theorem renL_length (f : Nat → Nat) : ∀ l : List AV, (AV.renL f l).length = l.length
  | [] => rfl
  | x :: l => by simp [AV.renL, renL_length f l]
theorem ren_one (f : Nat → Nat) (x : AV) : (x.ren f).one = x.one := by cases x <;> simp [AV.ren]
theorem ren_owns (f : Nat → Nat) (x : AV) : (x.ren f).owns = x.owns := by cases x <;> simp [AV.ren]
theorem ren_cellOk (f : Nat → Nat) (x : AV) (ty : TypeId) {e e' : Prop} (he : e = e') : (x.ren f).cellOk ty e ↔ x.cellOk ty e' := by
  subst he
  unfold AV.cellOk
  rw [ren_one]
  constructor
  · rintro (h | ⟨h0, b, h⟩)
    · exact .inl h
    · cases x <;> simp [AV.ren] at h
      exact .inr ⟨h0, _, by rw [h.1]⟩
  · rintro (h | ⟨h0, b, h⟩)
    · exact .inl h
    · subst h; exact .inr ⟨h0, _, rfl⟩
theorem Rep.ren {imm : Addr → Option Value} {σ σ' : List Nat} {f : Nat → Nat} (hf : ∀ (b k : Nat), σ[b]? = some k → σ'[f b]? = some k) {x : AV} {v : Value} (h : Rep imm σ x v) : Rep imm σ' (x.ren f) v := by
  induction h generalizing σ' with
  | int k n hb => exact .int k n hb
  | bool b => exact .bool b
  | str s l h hb => exact .str s l h hb
  | nilp => exact .nilp
  | mptr b off k h => exact .mptr _ off k (hf _ _ h)
  | baddr0 t b h => exact .baddr0 t _ (List.getElem?_eq_some_iff.1 (hf b _ (List.getElem?_eq_getElem h))).1
  | baddr t b k h => exact .baddr t _ k (hf _ _ h)
  | msl b ec n k cap h hc hbd => exact .msl _ ec n k cap (hf _ _ h) hc hbd
  | e0 b => exact .e0 b
  | cptr cells a vs h r _ => exact .cptr cells a vs h r
  | nsl => exact .nsl
  | osl0 ec => exact .osl0 ec
  | osq0 ec => exact .osq0 ec
  | osl ec l a n cap vs hn hc hbd he h r _ => exact .osl ec l a n cap vs hn hc hbd he h r
  | osq ec l a n cap vs hn hc hbd he h r _ => exact .osq ec l a n cap vs hn hc hbd he h r
  | sl0 => exact .sl0
  | sl ec l a n cap vs hn hc hbd he h r _ => exact .sl ec l a n cap vs hn hc hbd he h r
  | fn g fs cs fv cv hf' hc _ _ ihf ihc =>
    refine .fn g _ _ fv cv (by rw [renL_length]; exact hf') (by rw [renL_length]; exact hc) (fun i x hx => ?_) (fun i x hx => ?_)
    · rw [renL_get] at hx
      cases hy : fs[i]? with
      | none => rw [hy] at hx; cases hx
      | some y => rw [hy] at hx; cases hx; exact ihf i y hy hf
    · rw [renL_get] at hx
      cases hy : cs[i]? with
      | none => rw [hy] at hx; cases hx
      | some y => rw [hy] at hx; cases hx; exact ihc i y hy hf
  | nilfn => exact .nilfn
  | iface t x v _ ih => exact .iface t _ v (ih hf)
  | nilif => exact .nilif
  | agg cs vs hs' _ ih =>
    refine .agg _ vs (by rw [renL_length]; exact hs') (fun i x hx => ?_)
    rw [renL_get] at hx
    cases hy : cs[i]? with
    | none => rw [hy] at hx; cases hx
    | some y => rw [hy] at hx; cases hx; exact ih i y hy hf
  | tup cs vs hs' _ ih =>
    refine .tup _ vs (by rw [renL_length]; exact hs') (fun i x hx => ?_)
    rw [renL_get] at hx
    cases hy : cs[i]? with
    | none => rw [hy] at hx; cases hx
    | some y => rw [hy] at hx; cases hx; exact ih i y hy hf
  | top v => exact .top v
theorem Rep.unren {imm : Addr → Option Value} {σ σ' : List Nat} {f : Nat → Nat} {m : Nat} (hf : ∀ (b : Nat), b < m → σ'[b]? = σ[f b]?) {y : AV} {v : Value} (h : Rep imm σ y v) :
    ∀ x : AV, y = x.ren f → x.under m = true → m ≤ σ'.length → Rep imm σ' x v := by
  induction h generalizing σ' with
  | int k n hb => intro x e hu hm; cases x <;> simp [AV.ren] at e; obtain ⟨rfl, rfl⟩ := e; exact .int _ _ hb
  | bool b => intro x e hu hm; cases x <;> simp [AV.ren] at e; subst e; exact .bool _
  | str s l h hb => intro x e hu hm; cases x <;> simp [AV.ren] at e; subst e; exact .str s _ h hb
  | nilp => intro x e hu hm; cases x <;> simp [AV.ren] at e; exact .nilp
  | mptr b off k h =>
    intro x e hu hm; cases x <;> simp [AV.ren] at e
    rename_i b' off'
    obtain ⟨rfl, rfl⟩ := e
    simp only [AV.under, decide_eq_true_eq] at hu
    exact .mptr _ _ k (by rw [hf _ hu]; exact h)
  | baddr0 t b h =>
    intro x e hu hm; cases x <;> simp [AV.ren] at e
    rename_i t' b'
    obtain ⟨rfl, rfl⟩ := e
    simp only [AV.under, decide_eq_true_eq] at hu
    exact .baddr0 _ _ (by omega)
  | baddr t b k h =>
    intro x e hu hm; cases x <;> simp [AV.ren] at e
    rename_i t' b'
    obtain ⟨rfl, rfl⟩ := e
    simp only [AV.under, decide_eq_true_eq] at hu
    exact .baddr _ _ k (by rw [hf _ hu]; exact h)
  | msl b ec n k cap h hc hbd =>
    intro x e hu hm; cases x <;> simp [AV.ren] at e
    rename_i b' ec' n'
    obtain ⟨rfl, rfl, rfl⟩ := e
    simp only [AV.under, decide_eq_true_eq] at hu
    exact .msl _ _ _ k cap (by rw [hf _ hu]; exact h) hc hbd
  | e0 b => intro x e hu hm; cases x <;> simp [AV.ren] at e; exact .e0 b
  | cptr cells a vs h r _ => intro x e hu hm; cases x <;> simp [AV.ren] at e; subst e; exact .cptr _ a vs h r
  | nsl => intro x e hu hm; cases x <;> simp [AV.ren] at e; exact .nsl
  | osl0 ec => intro x e hu hm; cases x <;> simp [AV.ren] at e; obtain ⟨rfl, rfl⟩ := e; exact .osl0 _
  | osq0 ec => intro x e hu hm; cases x <;> simp [AV.ren] at e; obtain ⟨rfl, rfl⟩ := e; exact .osq0 _
  | osl ec l a n cap vs hn hc hbd he h r _ => intro x e hu hm; cases x <;> simp [AV.ren] at e; obtain ⟨rfl, rfl⟩ := e; exact .osl _ _ a n cap vs hn hc hbd he h r
  | osq ec l a n cap vs hn hc hbd he h r _ => intro x e hu hm; cases x <;> simp [AV.ren] at e; obtain ⟨rfl, rfl⟩ := e; exact .osq _ _ a n cap vs hn hc hbd he h r
  | sl0 => intro x e hu hm; cases x <;> simp [AV.ren] at e; subst e; exact .sl0
  | sl ec l a n cap vs hn hc hbd he h r _ => intro x e hu hm; cases x <;> simp [AV.ren] at e; subst e; exact .sl ec _ a n cap vs hn hc hbd he h r
  | fn g fs cs fv cv hf' hc _ _ ihf ihc =>
    intro x e hu hm; cases x <;> simp [AV.ren] at e
    rename_i g' fs' cs'
    obtain ⟨rfl, rfl, rfl⟩ := e
    simp only [AV.under, Bool.and_eq_true] at hu
    refine .fn _ _ _ fv cv (by rw [renL_length] at hf'; exact hf') (by rw [renL_length] at hc; exact hc) (fun i x hx => ?_) (fun i x hx => ?_)
    · exact ihf i _ (by rw [renL_get, hx]; rfl) hf x rfl (underL_get hu.1 hx) hm
    · exact ihc i _ (by rw [renL_get, hx]; rfl) hf x rfl (underL_get hu.2 hx) hm
  | nilfn => intro x e hu hm; cases x <;> simp [AV.ren] at e; exact .nilfn
  | iface t x v _ ih =>
    intro y e hu hm; cases y <;> simp [AV.ren] at e
    obtain ⟨rfl, rfl⟩ := e
    exact .iface _ _ v (ih hf _ rfl (by simpa [AV.under] using hu) hm)
  | nilif => intro x e hu hm; cases x <;> simp [AV.ren] at e; exact .nilif
  | agg cs vs hs' _ ih =>
    intro x e hu hm; cases x <;> simp [AV.ren] at e
    subst e
    refine .agg _ vs (by rw [renL_length] at hs'; exact hs') (fun i x hx => ?_)
    exact ih i _ (by rw [renL_get, hx]; rfl) hf x rfl (underL_get (by simpa [AV.under] using hu) hx) hm
  | tup cs vs hs' _ ih =>
    intro x e hu hm; cases x <;> simp [AV.ren] at e
    subst e
    refine .tup _ vs (by rw [renL_length] at hs'; exact hs') (fun i x hx => ?_)
    exact ih i _ (by rw [renL_get, hx]; rfl) hf x rfl (underL_get (by simpa [AV.under] using hu) hx) hm
  | top v => intro x e hu hm; cases x <;> simp [AV.ren] at e; exact .top v
theorem OwnsBy.ren {imm : Addr → Option Value} {w : World} {bo : Option Nat} {x : AV} {v : Value} (f : Nat → Nat) : OwnsBy imm w bo (x.ren f) v ↔ OwnsBy imm w bo x v := by
  cases x <;> simp [AV.ren, OwnsBy]
def place (ρ : List Nat) (n : Nat) (j : Nat) : Nat := ρ.getD j (n + (j - ρ.length))
def lay (f : Nat → Nat) : List Nat → List (List AV) → List (List AV) → List (List AV)
  | [], l, bs => bs ++ l.map (AV.renL f)
  | r :: ρ, b :: l, bs => lay f ρ l (bs.set r (AV.renL f b))
  | _ :: _, [], bs => bs
def Stands (f : Nat → Nat) (bs : List (List AV)) : List Nat → List (List AV) → Prop
  | [], [] => True
  | r :: ρ, b :: l => bs[r]? = some (AV.renL f b) ∧ Stands f bs ρ l
  | _, _ => False
def noDup : List Nat → Bool
  | [] => true
  | r :: l => !(l.contains r) && noDup l
theorem noDup_spec : ∀ {l : List Nat}, noDup l = true → l.Nodup
  | [], _ => List.nodup_nil
  | r :: l, h => by
    simp only [noDup, Bool.and_eq_true, Bool.not_eq_true', List.contains_eq_mem, decide_eq_false_iff_not] at h
    exact List.nodup_cons.2 ⟨h.1, noDup_spec h.2⟩
def FrameOk (ρ : List Nat) (args : List AV) (bS bs : List (List AV)) : Prop :=
  noDup ρ = true ∧ AV.underL bS.length args = true ∧ underBlocks bS.length bS = true ∧ Stands (place ρ bs.length) bs ρ bS
theorem stands_length {f : Nat → Nat} {bs : List (List AV)} : ∀ {ρ : List Nat} {l : List (List AV)}, Stands f bs ρ l → ρ.length = l.length
  | [], [], _ => rfl
  | r :: ρ, b :: l, h => by simp [stands_length h.2]
  | [], _ :: _, h => h.elim
  | _ :: _, [], h => h.elim
theorem stands_get {f : Nat → Nat} {bs : List (List AV)} : ∀ {ρ : List Nat} {l : List (List AV)}, Stands f bs ρ l → ∀ (j r : Nat) b, ρ[j]? = some r → l[j]? = some b → bs[r]? = some (AV.renL f b)
  | [], [], _, j, r, b, h1, h2 => by simp at h1
  | r :: ρ, b :: l, h, j, r', b', h1, h2 => by
    cases j with
    | zero => simp at h1 h2; subst h1; subst h2; exact h.1
    | succ j => exact stands_get h.2 j r' b' (by simpa using h1) (by simpa using h2)
  | [], _ :: _, h, _, _, _, _, _ => h.elim
  | _ :: _, [], h, _, _, _, _, _ => h.elim
theorem lay_length (f : Nat → Nat) : ∀ (ρ : List Nat) (l bs : List (List AV)), ρ.length ≤ l.length → (lay f ρ l bs).length = bs.length + (l.length - ρ.length)
  | [], l, bs, _ => by simp [lay]
  | r :: ρ, b :: l, bs, h => by
    simp only [lay]
    rw [lay_length f ρ l _ (by simpa using h)]
    simp
  | _ :: _, [], bs, h => by simp at h
theorem lay_other (f : Nat → Nat) : ∀ (ρ : List Nat) (l bs : List (List AV)) (b : Nat), b ∉ ρ → b < bs.length → (lay f ρ l bs)[b]? = bs[b]?
  | [], l, bs, b, _, h => by simp [lay, List.getElem?_append_left h]
  | r :: ρ, x :: l, bs, b, h1, h2 => by
    simp only [List.mem_cons, not_or] at h1
    simp only [lay]
    rw [lay_other f ρ l _ b h1.2 (by simpa using h2), List.getElem?_set_ne (fun e => h1.1 e.symm)]
  | _ :: _, [], bs, b, _, _ => rfl
theorem lay_at (f : Nat → Nat) : ∀ (ρ : List Nat) (l bs : List (List AV)) (j r : Nat), ρ.Nodup → (∀ q, q ∈ ρ → q < bs.length) → ρ.length ≤ l.length → ρ[j]? = some r → (lay f ρ l bs)[r]? = l[j]?.map (AV.renL f)
  | [], l, bs, j, r, _, _, _, h => by simp at h
  | q :: ρ, x :: l, bs, j, r, hn, hq, hl, h => by
    simp only [lay]
    have hn' := List.nodup_cons.1 hn
    cases j with
    | zero =>
      simp at h; subst h
      rw [lay_other f ρ l _ q hn'.1 (by simpa using hq q (List.mem_cons_self ..))]
      rw [List.getElem?_set_self (hq q (List.mem_cons_self ..))]; rfl
    | succ j =>
      rw [lay_at f ρ l _ j r hn'.2 (fun y hy => by simpa using hq y (List.mem_cons_of_mem _ hy)) (by simpa using hl) (by simpa using h)]
      simp
  | _ :: _, [], bs, j, r, _, _, hl, _ => by simp at hl
theorem lay_new (f : Nat → Nat) : ∀ (ρ : List Nat) (l bs : List (List AV)) (j : Nat), ρ.length ≤ l.length → (lay f ρ l bs)[bs.length + j]? = l[ρ.length + j]?.map (AV.renL f)
  | [], l, bs, j, _ => by simp only [lay]; rw [List.getElem?_append_right (by omega)]; simp
  | r :: ρ, x :: l, bs, j, h => by
    simp only [lay]
    have := lay_new f ρ l (bs.set r (AV.renL f x)) j (by simpa using h)
    rw [List.length_set] at this
    rw [this, List.length_cons, show ρ.length + 1 + j = (ρ.length + j) + 1 by omega, List.getElem?_cons_succ]
  | _ :: _, [], bs, j, h => by simp at h
def Gh.small (g : Gh) (ρ : List Nat) : Gh where
  imm := g.imm
  σ := ρ.map fun b => g.σ.getD b 0
  own := fun p => match p with
    | .cell j o => match ρ[j]? with
      | some b => g.own (.cell b o)
      | none => none
    | .tmp _ => none
theorem small_σ {g : Gh} {ρ : List Nat} (hlt : ∀ q, q ∈ ρ → q < g.σ.length) (j : Nat) : (g.small ρ).σ[j]? = (ρ[j]?).bind fun b => g.σ[b]? := by
  simp only [Gh.small, List.getElem?_map]
  cases h : ρ[j]? with
  | none => rfl
  | some b =>
    have := hlt b (List.mem_of_getElem? h)
    simp only [Option.map_some, Option.bind_some]
    rw [some_getD 0 this]
theorem idx_inj {α : Type} {l : List α} (h : l.Nodup) {i j : Nat} {x : α} (hi : l[i]? = some x) (hj : l[j]? = some x) : i = j := by
  obtain ⟨h1, e1⟩ := List.getElem?_eq_some_iff.1 hi
  obtain ⟨h2, e2⟩ := List.getElem?_eq_some_iff.1 hj
  exact (List.getElem_inj h).1 (e1.trans e2.symm)
theorem sto_small {g : Gh} {bs bS : List (List AV)} {w : World} {ρ : List Nat} (h : Sto g bs w) (hn : ρ.Nodup) (hs : Stands (place ρ bs.length) bs ρ bS) (hu : underBlocks bS.length bS = true) : Sto (g.small ρ) bS w := by
  have hlen := stands_length hs
  have hget := fun j r b h1 h2 => stands_get hs j r b h1 h2
  have hlt : ∀ q, q ∈ ρ → q < g.σ.length := fun q hq => by
    obtain ⟨j, hj⟩ := List.getElem?_of_mem hq
    have hj' : j < bS.length := by rw [← hlen]; exact (List.getElem?_eq_some_iff.1 hj).1
    have := hget j q _ hj (List.getElem?_eq_getElem hj')
    rw [h.len]; exact (List.getElem?_eq_some_iff.1 this).1
  have hσ := small_σ (g := g) hlt
  refine { gok := h.gok, imm := h.imm, immσ := fun x v hx hm => ?_, len := by simp [Gh.small, hlen], nodup := ?_, blk := fun j blk k hb hk => ?_, ownσ := fun p k hp => ?_, ownInj := fun p q k hp hq => ?_ }
  · obtain ⟨j, hj⟩ := List.getElem?_of_mem hm
    rw [hσ] at hj
    cases hr : ρ[j]? with
    | none => rw [hr] at hj; cases hj
    | some b => rw [hr] at hj; exact h.immσ x v hx (List.mem_of_getElem? hj)
  · rw [List.nodup_iff_pairwise_ne, List.pairwise_iff_getElem]
    intro i j hi hj hij e
    have e1 : (g.small ρ).σ[i]? = some ((g.small ρ).σ[i]) := List.getElem?_eq_getElem hi
    have e2 : (g.small ρ).σ[j]? = some ((g.small ρ).σ[j]) := List.getElem?_eq_getElem hj
    rw [← e] at e2
    rw [hσ] at e1 e2
    cases h1 : ρ[i]? with
    | none => rw [h1] at e1; cases e1
    | some a =>
      cases h2 : ρ[j]? with
      | none => rw [h2] at e2; cases e2
      | some b =>
        rw [h1] at e1; rw [h2] at e2
        have := idx_inj h.nodup e1 e2
        subst this
        have := idx_inj hn h1 h2
        omega
  · rw [hσ] at hk
    cases hr : ρ[j]? with
    | none => rw [hr] at hk; cases hk
    | some b =>
      rw [hr] at hk
      obtain ⟨c, ty, h1, h2, h3⟩ := h.blk b _ k (hget j b blk hr hb) hk
      refine ⟨c, ty, h1, by rw [renL_length] at h2; exact h2, fun o x hx => ?_⟩
      obtain ⟨p1, p2, p3⟩ := h3 o (x.ren (place ρ bs.length)) (by rw [renL_get, hx]; rfl)
      refine ⟨(ren_cellOk _ _ _ (by rw [renL_length])).1 p1, ?_, ?_⟩
      · refine p2.unren (m := bS.length) (fun b' hb' => ?_) x rfl (underL_get (underBlocks_get hu blk (List.mem_of_getElem? hb)) hx) (by simp [Gh.small, hlen])
        have : ∃ r, ρ[b']? = some r := ⟨_, List.getElem?_eq_getElem (by rw [hlen]; exact hb')⟩
        obtain ⟨r, hr'⟩ := this
        rw [hσ, hr']
        simp only [Option.bind_some, place, List.getD_eq_getElem?_getD, hr', Option.getD_some]
      · have : (g.small ρ).own (.cell j o) = g.own (.cell b o) := by simp [Gh.small, hr]
        rw [this]
        exact (OwnsBy.ren _).1 p3
  · have : ∃ q, g.own q = some k := by
      cases p with
      | tmp t => cases hp
      | cell j o =>
        simp only [Gh.small] at hp
        split at hp
        · exact ⟨_, hp⟩
        · cases hp
    obtain ⟨q, hq⟩ := this
    refine ⟨fun hm => ?_, (h.ownσ q k hq).2⟩
    obtain ⟨j, hj⟩ := List.getElem?_of_mem hm
    rw [hσ] at hj
    cases hr : ρ[j]? with
    | none => rw [hr] at hj; cases hj
    | some b => rw [hr] at hj; exact (h.ownσ q k hq).1 (List.mem_of_getElem? hj)
  · cases p with
    | tmp t => cases hp
    | cell j o =>
      cases q with
      | tmp t => cases hq
      | cell j' o' =>
        simp only [Gh.small] at hp hq
        cases h1 : ρ[j]? with
        | none => rw [h1] at hp; cases hp
        | some b =>
          cases h2 : ρ[j']? with
          | none => rw [h2] at hq; cases hq
          | some b' =>
            rw [h1] at hp; rw [h2] at hq
            have := h.ownInj _ _ k hp hq
            cases this
            rw [idx_inj hn h1 h2]
def Gh.large (g gS : Gh) (ρ : List Nat) : Gh where
  imm := gS.imm
  σ := g.σ ++ gS.σ.drop ρ.length
  own := fun p => match p with
    | .cell b o => if b < g.σ.length then (match ρ.idxOf? b with
        | some j => gS.own (.cell j o)
        | none => g.own (.cell b o))
      else gS.own (.cell (b - g.σ.length + ρ.length) o)
    | .tmp _ => none
theorem idxOf_some {ρ : List Nat} {b j : Nat} (h : ρ.idxOf? b = some j) : ρ[j]? = some b := by
  obtain ⟨hj, h1, _⟩ := List.idxOf?_eq_some_iff.1 h
  rw [List.getElem?_eq_getElem hj, h1]
theorem idxOf_none {ρ : List Nat} {b : Nat} (h : ρ.idxOf? b = none) : b ∉ ρ := List.idxOf?_eq_none_iff.1 h
theorem Raw.frame {P : Program} {f : FuncId} {args : List AV} {bS bS' : List (List AV)} {res : AV} (h : Raw P f args bS res bS') (ρ : List Nat) (bs : List (List AV)) (hok : FrameOk ρ args bS bs) :
    Raw P f (AV.renL (place ρ bs.length) args) bs (res.ren (place ρ bs.length)) (lay (place ρ bs.length) ρ bS' bs) := by
  obtain ⟨hn0, hua, hub, hs⟩ := hok
  have hn := noDup_spec hn0
  refine ⟨h.1, fun g w vals hst h0 htg ha => ?_⟩
  have hlen := stands_length hs
  have hlt : ∀ q, q ∈ ρ → q < bs.length := fun q hq => by
    obtain ⟨j, hj⟩ := List.getElem?_of_mem hq
    have hj' : j < bS.length := by rw [← hlen]; exact (List.getElem?_eq_some_iff.1 hj).1
    have := stands_get hs j q _ hj (List.getElem?_eq_getElem hj')
    exact (List.getElem?_eq_some_iff.1 this).1
  have hltσ : ∀ q, q ∈ ρ → q < g.σ.length := fun q hq => by rw [hst.len]; exact hlt q hq
  have hσ := small_σ (g := g) hltσ
  have hS := sto_small hst hn hs hub
  have hplace : ∀ (j r : Nat), ρ[j]? = some r → place ρ bs.length j = r := fun j r hr => by
    simp only [place, List.getD_eq_getElem?_getD, hr, Option.getD_some]
  have haS : RepL (g.small ρ).imm (g.small ρ).σ args vals := by
    refine ⟨by rw [ha.1, renL_length], fun i x hx => ?_⟩
    refine (ha.2 i (x.ren (place ρ bs.length)) (by rw [renL_get, hx]; rfl)).unren (m := bS.length) (fun b' hb' => ?_) x rfl (underL_get hua hx) (by simp [Gh.small, hlen])
    obtain ⟨r, hr⟩ : ∃ r, ρ[b']? = some r := ⟨_, List.getElem?_eq_getElem (by rw [hlen]; exact hb')⟩
    rw [hσ, hr, hplace _ _ hr]; rfl
  have htS : TG (g.small ρ) w := ⟨htg.1, fun k hk => by
    obtain ⟨j, hj⟩ := List.getElem?_of_mem hk
    rw [hσ] at hj
    cases hr : ρ[j]? with
    | none => rw [hr] at hj; cases hj
    | some b => rw [hr] at hj; exact htg.2.1 k (List.mem_of_getElem? hj), fun p k hk => by
    cases p with
    | tmp t => cases hk
    | cell j o =>
      simp only [Gh.small] at hk
      split at hk
      · exact htg.2.2 _ k hk
      · cases hk⟩
  refine (h.2 (g.small ρ) w vals hS (fun t => rfl) htS haS).mono ?_
  rintro e w' ⟨gS, v, rfl, hv, hsto, hext, htmp⟩
  have hT : ∀ k, Fx.T ⟨w, g.small ρ⟩ k → (k ∈ (g.small ρ).σ) ∨ ∃ (j b o : Nat), ρ[j]? = some b ∧ g.own (.cell b o) = some k := by
    rintro k (hk | ⟨j, o, hk⟩)
    · exact .inl hk
    · simp only [Gh.small] at hk
      split at hk
      · rename_i b hb; exact .inr ⟨j, b, o, hb, hk⟩
      · cases hk
  have hsub : ∀ k, k ∈ (g.small ρ).σ → k ∈ g.σ := fun k hk => by
    obtain ⟨j, hj⟩ := List.getElem?_of_mem hk
    rw [hσ] at hj
    cases hr : ρ[j]? with
    | none => rw [hr] at hj; cases hj
    | some b => rw [hr] at hj; exact List.mem_of_getElem? hj
  have hTg : ∀ k, Fx.T ⟨w, g.small ρ⟩ k → Fx.T ⟨w, g⟩ k := fun k hk => by
    rcases hT k hk with h1 | ⟨j, b, o, _, h2⟩
    · exact .inl (hsub k h1)
    · exact .inr ⟨b, o, h2⟩
  have hmine : ∀ k, Fx.mine ⟨w, g.small ρ⟩ k → Fx.mine ⟨w, g⟩ k := fun k hk => hk.imp id (hTg k)
  have hpre : ∀ (j k : Nat), (g.small ρ).σ[j]? = some k → gS.σ[j]? = some k := hext.σ
  have hlenS : (g.small ρ).σ.length = ρ.length := by simp [Gh.small]
  have hgeS : ρ.length ≤ gS.σ.length := by
    rcases Nat.lt_or_ge gS.σ.length ρ.length with h1 | h1
    · have h2 := List.getElem?_eq_getElem (show gS.σ.length < (g.small ρ).σ.length by rw [hlenS]; exact h1)
      have h3 := (List.getElem?_eq_some_iff.1 (hpre _ _ h2)).1
      omega
    · exact h1
  have hge : ρ.length ≤ bS'.length := by rw [← hsto.len]; exact hgeS
  have hpreρ : ∀ (j b : Nat), ρ[j]? = some b → gS.σ[j]? = g.σ[b]? := fun j b hr => by
    have h1 := hσ j
    rw [hr] at h1
    have hb := hltσ b (List.mem_of_getElem? hr)
    simp only [Option.bind_some] at h1
    rw [List.getElem?_eq_getElem hb] at h1 ⊢
    exact hpre _ _ h1
  have hfr : ∀ (b k : Nat), g.σ[b]? = some k → b ∉ ρ → ¬ Fx.T ⟨w, g.small ρ⟩ k := fun b k hk hb ht => by
    rcases hT k ht with h1 | ⟨j, b', o, _, h2⟩
    · obtain ⟨j, hj⟩ := List.getElem?_of_mem h1
      rw [hσ] at hj
      cases hr : ρ[j]? with
      | none => rw [hr] at hj; cases hj
      | some b' =>
        rw [hr] at hj
        have := idx_inj hst.nodup hk hj
        subst this
        exact hb (List.mem_of_getElem? hr)
    · exact (hst.ownσ _ k h2).1 (List.mem_of_getElem? hk)
  have hfo : ∀ (b o k : Nat), g.own (.cell b o) = some k → b ∉ ρ → ¬ Fx.T ⟨w, g.small ρ⟩ k := fun b o k hk hb ht => by
    rcases hT k ht with h1 | ⟨j, b', o', hr, h2⟩
    · exact (hst.ownσ _ k hk).1 (hsub k h1)
    · have := hst.ownInj _ _ k hk h2
      cases this
      exact hb (List.mem_of_getElem? hr)
  have hnewmem : ∀ k, k ∈ gS.σ.drop ρ.length → k ∈ gS.σ ∧ k ∉ (g.small ρ).σ := fun k hk => by
    refine ⟨List.mem_of_mem_drop hk, fun hm => ?_⟩
    obtain ⟨j, hj⟩ := List.getElem?_of_mem hm
    obtain ⟨i, hi⟩ := List.getElem?_of_mem hk
    rw [List.getElem?_drop] at hi
    have := idx_inj hsto.nodup (hpre j k hj) hi
    have hj' := (List.getElem?_eq_some_iff.1 hj).1
    rw [hlenS] at hj'
    omega
  have hnewold : ∀ k, k ∈ gS.σ.drop ρ.length → k ∉ g.σ := fun k hk hm => by
    obtain ⟨h1, h2⟩ := hnewmem k hk
    rcases hext.mineσ k h1 with h3 | h3
    · exact absurd (hst.σ_lt hm) (Nat.not_lt.2 h3)
    · rcases hT k h3 with h4 | ⟨j, b, o, _, h5⟩
      · exact h2 h4
      · exact (hst.ownσ _ k h5).1 hm
  have hownNew : ∀ (j o k : Nat), gS.own (.cell j o) = some k → k ∉ g.σ := fun j o k hk hm => by
    rcases hext.mineOwn _ k hk with h3 | h3
    · exact absurd (hst.σ_lt hm) (Nat.not_lt.2 h3)
    · rcases hT k h3 with h4 | ⟨j', b, o', _, h5⟩
      · obtain ⟨i, hi⟩ := List.getElem?_of_mem h4
        exact (hsto.ownσ _ k hk).1 (List.mem_of_getElem? (hpre i k hi))
      · exact (hst.ownσ _ k h5).1 hm
  have hnum : ∀ (j k : Nat), gS.σ[j]? = some k → (g.large gS ρ).σ[place ρ bs.length j]? = some k := fun j k hk => by
    simp only [Gh.large]
    cases hr : ρ[j]? with
    | some b =>
      rw [hplace j b hr, List.getElem?_append_left (hltσ b (List.mem_of_getElem? hr)), ← hpreρ j b hr]; exact hk
    | none =>
      have hj : ρ.length ≤ j := List.getElem?_eq_none_iff.1 hr
      simp only [place, List.getD_eq_getElem?_getD, hr, Option.getD_none]
      rw [← hst.len, List.getElem?_append_right (by omega), List.getElem?_drop, show ρ.length + (g.σ.length + (j - ρ.length) - g.σ.length) = j by omega]; exact hk
  have hownρ : ∀ (j b o : Nat), ρ[j]? = some b → (g.large gS ρ).own (.cell b o) = gS.own (.cell j o) := fun j b o hr => by
    simp only [Gh.large]
    rw [if_pos (hltσ b (List.mem_of_getElem? hr))]
    cases hi : ρ.idxOf? b with
    | none => exact absurd (List.mem_of_getElem? hr) (idxOf_none hi)
    | some i => rw [idx_inj hn (idxOf_some hi) hr]
  have hownF : ∀ (b o : Nat), b < g.σ.length → b ∉ ρ → (g.large gS ρ).own (.cell b o) = g.own (.cell b o) := fun b o hb hr => by
    simp only [Gh.large]
    rw [if_pos hb]
    cases hi : ρ.idxOf? b with
    | none => rfl
    | some i => exact absurd (List.mem_of_getElem? (idxOf_some hi)) hr
  have hownN : ∀ (b o : Nat), g.σ.length ≤ b → (g.large gS ρ).own (.cell b o) = gS.own (.cell (b - g.σ.length + ρ.length) o) := fun b o hb => by
    simp only [Gh.large]
    rw [if_neg (by omega)]
  have hcases : ∀ (p : Place) (k : Nat), (g.large gS ρ).own p = some k → (∃ b o, p = .cell b o ∧ b < g.σ.length ∧ b ∉ ρ ∧ g.own p = some k) ∨
      (∃ b o j, p = .cell b o ∧ gS.own (.cell j o) = some k ∧ ((ρ[j]? = some b ∧ b < g.σ.length) ∨ (g.σ.length ≤ b ∧ j = b - g.σ.length + ρ.length))) := fun p k hp => by
    cases p with
    | tmp t => cases hp
    | cell b o =>
      rcases Nat.lt_or_ge b g.σ.length with hb | hb
      · by_cases hr : b ∈ ρ
        · obtain ⟨j, hj⟩ := List.getElem?_of_mem hr
          rw [hownρ j b o hj] at hp
          exact .inr ⟨b, o, j, rfl, hp, .inl ⟨hj, hb⟩⟩
        · rw [hownF b o hb hr] at hp
          exact .inl ⟨b, o, rfl, hb, hr, hp⟩
      · rw [hownN b o hb] at hp
        exact .inr ⟨b, o, _, rfl, hp, .inr ⟨hb, rfl⟩⟩
  have hσlen : (g.large gS ρ).σ.length = bs.length + (bS'.length - ρ.length) := by
    simp only [Gh.large, List.length_append, List.length_drop, hst.len, hsto.len]
  have hExt : Ext ⟨w, g⟩ (g.large gS ρ) w' := {
    gfx := htg.fx
    imm := hext.imm
    immNew := fun x u hx => (hext.immNew x u hx).imp id (hmine _)
    σ := fun b k hk => by
      show (g.σ ++ gS.σ.drop ρ.length)[b]? = some k
      rw [List.getElem?_append_left (List.getElem?_eq_some_iff.1 hk).1]; exact hk
    mineσ := fun k hk => by
      rcases List.mem_append.1 hk with h1 | h1
      · exact .inr (.inl h1)
      · exact hmine _ (hext.mineσ k (hnewmem k h1).1)
    mineOwn := fun p k hp => by
      rcases hcases p k hp with ⟨b, o, rfl, _, _, h3⟩ | ⟨b, o, j, rfl, h3, _⟩
      · exact .inr (.inr ⟨b, o, h3⟩)
      · exact hmine _ (hext.mineOwn _ k h3)
    keep := fun k hk hnt => hext.keep k hk fun ht => hnt (hTg k ht)
    size := hext.size
    os := hext.os
    tape := hext.tape
    output := hext.output }
  refine ⟨g.large gS ρ, v, rfl, hv.ren hnum, ?_, hExt, fun t => rfl⟩
  have hspare : ∀ (b o k : Nat) (a : Addr) lo hi, g.own (.cell b o) = some k → b ∉ ρ → a.block = k → Spare g.imm w a lo hi → Spare gS.imm w' a lo hi := fun b o k a lo hi hk hb hak hsp j h1 h2 => by
    obtain ⟨p1, ⟨u, p2⟩, p3⟩ := hsp j h1 h2
    have hkl := (hst.ownσ _ k hk).2
    have hnt := hfo b o k hk hb
    have hh := hext.keep k hkl hnt
    have hbl : (a.add j).block = k := by rw [add_block]; exact hak
    refine ⟨?_, ⟨u, ?_⟩, ?_⟩
    · cases hc : gS.imm (a.add j) with
      | none => rfl
      | some u' =>
        rcases hext.immNew _ _ hc with h3 | h3
        · have h3' : g.imm (a.add j) = some u' := h3
          rw [p1] at h3'; cases h3'
        · rw [hbl] at h3
          rcases h3 with h4 | h4
          · exact absurd hkl (Nat.not_lt.2 h4)
          · exact absurd h4 hnt
    · rw [← p2]; unfold World.cell?; rw [hbl, hh]
    · rw [← p3]; unfold World.frozen?; rw [hbl, hh]
  refine { gok := hsto.gok, imm := hsto.imm, immσ := fun x u hx hm => ?_, len := by rw [hσlen, lay_length _ _ _ _ hge], nodup := ?_, blk := fun b blk k hb hk => ?_, ownσ := fun p k hp => ?_, ownInj := fun p q k hp hq => ?_ }
  · rcases List.mem_append.1 hm with h1 | h1
    · obtain ⟨b, hb⟩ := List.getElem?_of_mem h1
      by_cases hr : b ∈ ρ
      · obtain ⟨j, hj⟩ := List.getElem?_of_mem hr
        exact hsto.immσ x u hx (List.mem_of_getElem? (i := j) (by rw [hpreρ j b hj]; exact hb))
      · rcases hext.immNew x u hx with h2 | h2
        · exact hst.immσ x u h2 h1
        · rcases h2 with h3 | h3
          · exact absurd (hst.σ_lt h1) (Nat.not_lt.2 h3)
          · exact hfr b _ hb hr h3
    · exact hsto.immσ x u hx (hnewmem _ h1).1
  · refine List.nodup_append.2 ⟨hst.nodup, hsto.nodup.sublist (List.drop_sublist _ _), fun a ha b hb e => ?_⟩
    subst e; exact hnewold a hb ha
  ·
    have hS' : ∀ (j : Nat) blkS, bS'[j]? = some blkS → gS.σ[j]? = some k → (∀ o, (g.large gS ρ).own (.cell b o) = gS.own (.cell j o)) → blk = AV.renL (place ρ bs.length) blkS →
        ∃ c ty, w'.heap[k]? = some (.cells c ty (0, 0)) ∧ blk.length ≤ c.size ∧ ∀ (o : Nat) x, blk[o]? = some x → x.cellOk ty (blk.length = c.size) ∧ Rep (g.large gS ρ).imm (g.large gS ρ).σ x (c.getD o undef) ∧ OwnsBy (g.large gS ρ).imm w' ((g.large gS ρ).own (.cell b o)) x (c.getD o undef) := by
      intro j blkS h1 h2 h3 h4
      obtain ⟨c, ty, q1, q2, q3⟩ := hsto.blk j blkS k h1 h2
      refine ⟨c, ty, q1, by rw [h4, renL_length]; exact q2, fun o x hx => ?_⟩
      rw [h4, renL_get] at hx
      cases hy : blkS[o]? with
      | none => rw [hy] at hx; cases hx
      | some y =>
        rw [hy] at hx; cases hx
        obtain ⟨r1, r2, r3⟩ := q3 o y hy
        exact ⟨(ren_cellOk _ _ _ (by rw [h4, renL_length])).2 r1, r2.ren hnum, by rw [h3]; exact (OwnsBy.ren _).2 r3⟩
    rcases Nat.lt_or_ge b g.σ.length with hbl | hbl
    · have hk' : g.σ[b]? = some k := by
        have : (g.σ ++ gS.σ.drop ρ.length)[b]? = some k := hk
        rwa [List.getElem?_append_left hbl] at this
      by_cases hr : b ∈ ρ
      · obtain ⟨j, hj⟩ := List.getElem?_of_mem hr
        rw [lay_at _ _ _ _ j b hn hlt hge hj] at hb
        cases hq : bS'[j]? with
        | none => rw [hq] at hb; cases hb
        | some blkS =>
          rw [hq] at hb
          exact hS' j blkS hq (by rw [hpreρ j b hj]; exact hk') (fun o => hownρ j b o hj) (by cases hb; rfl)
      · rw [lay_other _ _ _ _ b hr (by rw [← hst.len]; exact hbl)] at hb
        obtain ⟨c, ty, q1, q2, q3⟩ := hst.blk b blk k hb hk'
        have hh := hext.keep k (hst.σ_lt (List.mem_of_getElem? hk')) (hfr b k hk' hr)
        refine ⟨c, ty, by rw [hh]; exact q1, q2, fun o x hx => ?_⟩
        obtain ⟨r1, r2, r3⟩ := q3 o x hx
        refine ⟨r1, r2.mono hext.imm (fun b' k' hb' => hExt.σ b' k' hb'), ?_⟩
        rw [hownF b o hbl hr]
        cases x <;> try exact trivial
        · intro base n cap hv'
          rcases r3 base n cap hv' with h1 | ⟨a, h1, h2, ⟨h3, h4, m, h5, h6⟩, h7⟩
          · exact .inl h1
          · have hkl := (hst.ownσ _ _ h2).2
            have hnt := hfo b o _ h2 hr
            refine .inr ⟨a, h1, h2, ⟨h3, h4, m, shape_keep (hext.keep _ hkl hnt) h5, h6⟩, hspare b o _ a _ _ h2 hr rfl h7⟩
        · intro base n cap hv'
          rcases r3 base n cap hv' with h1 | ⟨a, h1, h2, h7⟩
          · exact .inl h1
          · exact .inr ⟨a, h1, h2, hspare b o _ a _ _ h2 hr rfl h7⟩
    · have hk' : gS.σ[b - g.σ.length + ρ.length]? = some k := by
        have : (g.σ ++ gS.σ.drop ρ.length)[b]? = some k := hk
        rw [List.getElem?_append_right hbl, List.getElem?_drop] at this
        rw [Nat.add_comm]; exact this
      have hbl' : bs.length ≤ b := by rw [← hst.len]; exact hbl
      obtain ⟨d, rfl⟩ : ∃ d, b = bs.length + d := ⟨b - bs.length, by omega⟩
      rw [lay_new _ _ _ _ d hge] at hb
      have hidx : bs.length + d - g.σ.length + ρ.length = ρ.length + d := by rw [hst.len]; omega
      cases hq : bS'[ρ.length + d]? with
      | none => rw [hq] at hb; cases hb
      | some blkS =>
        rw [hq] at hb
        exact hS' (ρ.length + d) blkS hq (by rw [← hidx]; exact hk') (fun o => by rw [hownN _ o hbl, hidx]) (by cases hb; rfl)
  · rcases hcases p k hp with ⟨b, o, rfl, hb, hr, h3⟩ | ⟨b, o, j, rfl, h3, h4⟩
    · obtain ⟨q1, q2⟩ := hst.ownσ _ k h3
      refine ⟨fun hm => ?_, Nat.lt_of_lt_of_le q2 hext.size⟩
      rcases List.mem_append.1 hm with h5 | h5
      · exact q1 h5
      · obtain ⟨h6, h7⟩ := hnewmem k h5
        rcases hext.mineσ k h6 with h8 | h8
        · exact absurd q2 (Nat.not_lt.2 h8)
        · exact hfo b o k h3 hr h8
    · obtain ⟨q1, q2⟩ := hsto.ownσ _ k h3
      refine ⟨fun hm => ?_, q2⟩
      rcases List.mem_append.1 hm with h5 | h5
      · exact hownNew j o k h3 h5
      · exact q1 (hnewmem k h5).1
  · have hmix : ∀ (b o j o' : Nat), b ∉ ρ → g.own (.cell b o) = some k → gS.own (.cell j o') = some k → False := fun b o j o' hr h1 h2 => by
      rcases hext.mineOwn _ k h2 with h3 | h3
      · exact absurd (hst.ownσ _ k h1).2 (Nat.not_lt.2 h3)
      · exact hfo b o k h1 hr h3
    rcases hcases p k hp with ⟨b, o, rfl, hb, hr, h3⟩ | ⟨b, o, j, rfl, h3, h4⟩
    · rcases hcases q k hq with ⟨b', o', rfl, hb', hr', h3'⟩ | ⟨b', o', j', rfl, h3', h4'⟩
      · exact hst.ownInj _ _ k h3 h3'
      · exact (hmix b o j' o' hr h3 h3').elim
    · rcases hcases q k hq with ⟨b', o', rfl, hb', hr', h3'⟩ | ⟨b', o', j', rfl, h3', h4'⟩
      · exact (hmix b' o' j o hr' h3' h3).elim
      · have := hsto.ownInj _ _ k h3 h3'
        cases this
        congr 1
        rcases h4 with ⟨h5, h6⟩ | ⟨h5, h6⟩ <;> rcases h4' with ⟨h5', h6'⟩ | ⟨h5', h6'⟩
        · rw [h5] at h5'; cases h5'; rfl
        · have := (List.getElem?_eq_some_iff.1 h5).1; omega
        · have := (List.getElem?_eq_some_iff.1 h5').1; omega
        · omega
attribute [simp] AV.ren AV.renL place lay Stands noDup FrameOk
end Go.Abs
set_option linter.unusedVariables false
set_option linter.unusedSimpArgs false
namespace Go.Abs
open Go
mutual
theorem fz_flat (b : Nat) (blk : List AV) : ∀ x : AV, x.flat = true → x.fz b blk = x
  | .fn f fs cs, h => by
    simp only [AV.flat, Bool.and_eq_true] at h
    simp only [AV.fz, fzL_flat b blk fs h.1, fzL_flat b blk cs h.2]
  | .iface t v, h => by simp only [AV.flat] at h; simp only [AV.fz, fz_flat b blk v h]
  | .agg cs, h => by simp only [AV.flat] at h; simp only [AV.fz, fzL_flat b blk cs h]
  | .tup cs, h => by simp only [AV.flat] at h; simp only [AV.fz, fzL_flat b blk cs h]
  | .mptr _ _, h => by simp [AV.flat] at h
  | .msl _ _ _, h => by simp [AV.flat] at h
  | .baddr _ _, h => by simp [AV.flat] at h
  | .int _ _, _ => rfl
  | .bool _, _ => rfl
  | .str _, _ => rfl
  | .nilp, _ => rfl
  | .cptr _, _ => rfl
  | .nsl, _ => rfl
  | .osl _ _, _ => rfl
  | .osq _ _, _ => rfl
  | .sl _, _ => rfl
  | .nilfn, _ => rfl
  | .nilif, _ => rfl
  | .e0, _ => rfl
  | .top, _ => rfl
theorem fzL_flat (b : Nat) (blk : List AV) : ∀ l : List AV, AV.flatL l = true → AV.fzL b blk l = l
  | [], _ => rfl
  | x :: l, h => by simp only [AV.flatL, Bool.and_eq_true] at h; simp only [AV.fzL, fz_flat b blk x h.1, fzL_flat b blk l h.2]
end
mutual
theorem ren_flat (f : Nat → Nat) : ∀ x : AV, x.flat = true → x.ren f = x
  | .fn g fs cs, h => by
    simp only [AV.flat, Bool.and_eq_true] at h
    simp only [AV.ren, renL_flat f fs h.1, renL_flat f cs h.2]
  | .iface t v, h => by simp only [AV.flat] at h; simp only [AV.ren, ren_flat f v h]
  | .agg cs, h => by simp only [AV.flat] at h; simp only [AV.ren, renL_flat f cs h]
  | .tup cs, h => by simp only [AV.flat] at h; simp only [AV.ren, renL_flat f cs h]
  | .mptr _ _, h => by simp [AV.flat] at h
  | .msl _ _ _, h => by simp [AV.flat] at h
  | .baddr _ _, h => by simp [AV.flat] at h
  | .int _ _, _ => rfl
  | .bool _, _ => rfl
  | .str _, _ => rfl
  | .nilp, _ => rfl
  | .cptr _, _ => rfl
  | .nsl, _ => rfl
  | .osl _ _, _ => rfl
  | .osq _ _, _ => rfl
  | .sl _, _ => rfl
  | .nilfn, _ => rfl
  | .nilif, _ => rfl
  | .e0, _ => rfl
  | .top, _ => rfl
theorem renL_flat (f : Nat → Nat) : ∀ l : List AV, AV.flatL l = true → AV.renL f l = l
  | [], _ => rfl
  | x :: l, h => by simp only [AV.flatL, Bool.and_eq_true] at h; simp only [AV.renL, ren_flat f x h.1, renL_flat f l h.2]
end
mutual
theorem under_flat (m : Nat) : ∀ x : AV, x.flat = true → x.under m = true
  | .fn g fs cs, h => by
    simp only [AV.flat, Bool.and_eq_true] at h
    simp only [AV.under, underL_flat m fs h.1, underL_flat m cs h.2, Bool.and_self]
  | .iface t v, h => by simp only [AV.flat] at h; simp only [AV.under, under_flat m v h]
  | .agg cs, h => by simp only [AV.flat] at h; simp only [AV.under, underL_flat m cs h]
  | .tup cs, h => by simp only [AV.flat] at h; simp only [AV.under, underL_flat m cs h]
  | .mptr _ _, h => by simp [AV.flat] at h
  | .msl _ _ _, h => by simp [AV.flat] at h
  | .baddr _ _, h => by simp [AV.flat] at h
  | .int _ _, _ => rfl
  | .bool _, _ => rfl
  | .str _, _ => rfl
  | .nilp, _ => rfl
  | .cptr _, _ => rfl
  | .nsl, _ => rfl
  | .osl _ _, _ => rfl
  | .osq _ _, _ => rfl
  | .sl _, _ => rfl
  | .nilfn, _ => rfl
  | .nilif, _ => rfl
  | .e0, _ => rfl
  | .top, _ => rfl
theorem underL_flat (m : Nat) : ∀ l : List AV, AV.flatL l = true → AV.underL m l = true
  | [], _ => rfl
  | x :: l, h => by simp only [AV.flatL, Bool.and_eq_true] at h; simp only [AV.underL, under_flat m x h.1, underL_flat m l h.2, Bool.and_self]
end
theorem leAV_refl (x : AV) : leAV x x := by
  cases x <;> simp
@[simp] theorem leCells_refl : ∀ l : List AV, leCells l l
  | [] => trivial
  | x :: l => ⟨leAV_refl x, .inr rfl, leCells_refl l⟩
def row {α : Type} (c : α → List AV) (l : List α) : List AV := (l.map c).flatten
def RowC {α : Type} (c : α → List AV) (n : Nat) : Prop := ∀ x, (c x).length = n ∧ (c x).all AV.inert = true
section
variable {α : Type} {c : α → List AV} {n : Nat} (h : RowC c n)
include h
theorem row_sz (l : List α) : ∀ e, e ∈ l.map c → e.length = n := fun e he => by
  obtain ⟨x, _, rfl⟩ := List.mem_map.1 he; exact (h x).1
theorem row_len (l : List α) : (row c l).length = l.length * n := by
  unfold row; rw [flatten_len _ (row_sz h l), List.length_map]
theorem row_inert (l : List α) : (row c l).all AV.inert = true := by
  rw [List.all_eq_true]
  intro x hx
  obtain ⟨e, he, hx⟩ := List.mem_flatten.1 hx
  obtain ⟨y, _, rfl⟩ := List.mem_map.1 he
  exact (List.all_eq_true.1 (h y).2) x hx
theorem row_flat (l : List α) : AV.flatL (row c l) = true := by
  have h1 := row_inert h l
  generalize row c l = cs at h1
  induction cs with
  | nil => rfl
  | cons x cs ih =>
    simp only [List.all_cons, Bool.and_eq_true, AV.inert] at h1
    simp only [AV.flatL, Bool.and_eq_true]
    exact ⟨h1.1.2, ih h1.2⟩
theorem row_under (m : Nat) (l : List α) : AV.underL m (row c l) = true := underL_flat m _ (row_flat h l)
theorem row_fz (b : Nat) (blk : List AV) (l : List α) : AV.fzL b blk (row c l) = row c l := fzL_flat b blk _ (row_flat h l)
theorem row_ren (f : Nat → Nat) (l : List α) : AV.renL f (row c l) = row c l := renL_flat f _ (row_flat h l)
theorem row_okFz (b : Nat) (blk : List AV) (l : List α) : okFzL b blk (row c l) = true := by
  have h1 := row_inert h l
  generalize row c l = cs at h1
  induction cs with
  | nil => rfl
  | cons x cs ih =>
    simp only [List.all_cons, Bool.and_eq_true, AV.inert, Bool.not_eq_true'] at h1
    simp only [okFzL, Bool.and_eq_true]
    refine ⟨?_, ih h1.2⟩
    have h2 : okFz b blk x = (x.fz b blk).one := by cases x <;> first | rfl | simp at h1
    rw [h2, fz_flat b blk x h1.1.2]; exact h1.1.1.1
theorem row_drop {l : List α} {i : Nat} {x : α} (hx : l[i]? = some x) : (row c l).drop (i * n) = c x ++ row c (l.drop (i + 1)) := by
  induction l generalizing i with
  | nil => simp at hx
  | cons y l ih =>
    unfold row
    cases i with
    | zero => simp at hx; subst hx; simp
    | succ i =>
      have := ih (i := i) (by simpa using hx)
      unfold row at this
      rw [List.map_cons, List.flatten_cons, Nat.add_mul, Nat.one_mul, Nat.add_comm, ← List.drop_drop, List.drop_left' (h y).1, this]
      simp
theorem row_get {l : List α} {i j : Nat} {x : α} (hx : l[i]? = some x) (hj : j < n) : (row c l)[i * n + j]? = (c x)[j]? := by
  have h1 := row_drop h hx
  have h2 : ((row c l).drop (i * n))[j]? = (row c l)[i * n + j]? := List.getElem?_drop
  rw [← h2, h1, List.getElem?_append_left (by rw [(h x).1]; exact hj)]
theorem row_set {l : List α} {i j : Nat} {x x' : α} {y : AV} (hx : l[i]? = some x) (hc : (c x).set j y = c x') (hj : j < n) : (row c l).set (i * n + j) y = row c (l.set i x') := by
  induction l generalizing i with
  | nil => simp at hx
  | cons z l ih =>
    unfold row
    cases i with
    | zero =>
      simp at hx; subst hx
      simp only [List.map_cons, List.flatten_cons, List.set_cons_zero, Nat.zero_mul, Nat.zero_add]
      rw [List.set_append_left _ _ (by rw [(h z).1]; exact hj), hc]
    | succ i =>
      have := ih (i := i) (by simpa using hx)
      unfold row at this
      simp only [List.map_cons, List.flatten_cons, List.set_cons_succ]
      rw [List.set_append_right _ _ (by rw [(h z).1, Nat.add_mul]; omega), (h z).1, show (i + 1) * n + j - n = i * n + j by rw [Nat.add_mul]; omega, this]
theorem row_getE {l : List α} {i j : Nat} {x : α} (hx : l[i]? = some x) (hj : j < n) : ∀ hi : i * n + j < (row c l).length, (row c l)[i * n + j]'hi = ((c x)[j]?).getD .top := fun hi => by
  have h1 := row_get h hx hj
  rw [List.getElem?_eq_getElem hi] at h1
  rw [← h1]; rfl
theorem row_chunk (l : List α) : chunk n l.length (row c l) = l.map c := by
  induction l with
  | nil => rfl
  | cons y l ih =>
    unfold row at ih ⊢
    simp only [List.length_cons, chunk, List.map_cons, List.flatten_cons]
    rw [List.take_left' (h y).1, List.drop_left' (h y).1, ih]
theorem row_take (l : List α) : (row c l).take (l.length * n) = row c l := List.take_of_length_le (by rw [row_len h]; exact Nat.le_refl _)
end
section
variable {α : Type} {c : α → List AV} (h : RowC c 1)
include h
theorem row_len1 (l : List α) : (row c l).length = l.length := by rw [row_len h, Nat.mul_one]
theorem row_take1 (l : List α) : (row c l).take l.length = row c l := by have := row_take h l; rwa [Nat.mul_one] at this
theorem row_drop1 {l : List α} {i : Nat} {x : α} (hx : l[i]? = some x) : (row c l).drop i = c x ++ row c (l.drop (i + 1)) := by have := row_drop h hx; rwa [Nat.mul_one] at this
theorem row_get1 {l : List α} {i : Nat} {x : α} (hx : l[i]? = some x) : (row c l)[i]? = (c x)[0]? := by have := row_get h hx (j := 0) (by omega); rwa [Nat.mul_one] at this
theorem row_getE1 {l : List α} {i : Nat} {x : α} (hx : l[i]? = some x) : ∀ hi : i < (row c l).length, (row c l)[i]'hi = ((c x)[0]?).getD .top := fun hi => by
  have h1 := row_get1 h hx
  rw [List.getElem?_eq_getElem hi] at h1
  rw [← h1]; rfl
theorem row_set1 (l : List α) (i : Nat) {x : α} {y : AV} (hc : c x = [y]) : (row c l).set i y = row c (l.set i x) := by
  rcases Nat.lt_or_ge i l.length with hi | hi
  · have := row_set h (x' := x) (y := y) (j := 0) (List.getElem?_eq_getElem hi) (by
      rw [hc]
      have h1 := (h l[i]).1
      cases hh : c l[i] with
      | nil => rw [hh] at h1; simp at h1
      | cons z zs =>
        rw [hh] at h1
        have : zs = [] := by simpa using h1
        subst this; rfl) (by omega)
    rwa [Nat.mul_one] at this
  · rw [List.set_eq_of_length_le (by rw [row_len1 h]; exact hi), List.set_eq_of_length_le hi]
end
theorem rc_I (k : IntKind) : RowC (cI k) 1 := fun x => by simp [AV.inert, AV.flat]
theorem rc_B : RowC cB 1 := fun x => by simp [AV.inert, AV.flat]
theorem rc_S : RowC cS 1 := fun x => by simp [AV.inert, AV.flat]
theorem rc_L {α : Type} (f : α → List AV) : RowC (cL f) 1 := fun x => by simp [AV.inert, AV.flat]
@[simp] theorem rlen_I (k : IntKind) (l : List Int) : (row (cI k) l).length = l.length := row_len1 (rc_I k) l
@[simp] theorem rlen_B (l : List Bool) : (row cB l).length = l.length := row_len1 rc_B l
@[simp] theorem rlen_L {α : Type} (f : α → List AV) (l : List (List α)) : (row (cL f) l).length = l.length := row_len1 (rc_L f) l
@[simp] theorem rine_I (k : IntKind) (l : List Int) : (row (cI k) l).all AV.inert = true := row_inert (rc_I k) l
@[simp] theorem rine_B (l : List Bool) : (row cB l).all AV.inert = true := row_inert rc_B l
@[simp] theorem rine_L {α : Type} (f : α → List AV) (l : List (List α)) : (row (cL f) l).all AV.inert = true := row_inert (rc_L f) l
@[simp] theorem rund_I (k : IntKind) (m : Nat) (l : List Int) : AV.underL m (row (cI k) l) = true := row_under (rc_I k) m l
@[simp] theorem rund_B (m : Nat) (l : List Bool) : AV.underL m (row cB l) = true := row_under rc_B m l
@[simp] theorem rund_L {α : Type} (f : α → List AV) (m : Nat) (l : List (List α)) : AV.underL m (row (cL f) l) = true := row_under (rc_L f) m l
@[simp] theorem rfz_I (k : IntKind) (b : Nat) (blk : List AV) (l : List Int) : AV.fzL b blk (row (cI k) l) = row (cI k) l := row_fz (rc_I k) b blk l
@[simp] theorem rfz_B (b : Nat) (blk : List AV) (l : List Bool) : AV.fzL b blk (row cB l) = row cB l := row_fz rc_B b blk l
@[simp] theorem rfz_L {α : Type} (f : α → List AV) (b : Nat) (blk : List AV) (l : List (List α)) : AV.fzL b blk (row (cL f) l) = row (cL f) l := row_fz (rc_L f) b blk l
@[simp] theorem rren_I (k : IntKind) (f : Nat → Nat) (l : List Int) : AV.renL f (row (cI k) l) = row (cI k) l := row_ren (rc_I k) f l
@[simp] theorem rren_B (f : Nat → Nat) (l : List Bool) : AV.renL f (row cB l) = row cB l := row_ren rc_B f l
@[simp] theorem rren_L {α : Type} (g : α → List AV) (f : Nat → Nat) (l : List (List α)) : AV.renL f (row (cL g) l) = row (cL g) l := row_ren (rc_L g) f l
@[simp] theorem rok_I (k : IntKind) (b : Nat) (blk : List AV) (l : List Int) : okFzL b blk (row (cI k) l) = true := row_okFz (rc_I k) b blk l
@[simp] theorem rok_B (b : Nat) (blk : List AV) (l : List Bool) : okFzL b blk (row cB l) = true := row_okFz rc_B b blk l
@[simp] theorem rok_L {α : Type} (f : α → List AV) (b : Nat) (blk : List AV) (l : List (List α)) : okFzL b blk (row (cL f) l) = true := row_okFz (rc_L f) b blk l
@[simp] theorem rchk_I (k : IntKind) {n : Nat} (l : List Int) (h : n = l.length) : chunk 1 n (row (cI k) l) = l.map (cI k) := by rw [h]; exact row_chunk (rc_I k) l
@[simp] theorem rchk_B {n : Nat} (l : List Bool) (h : n = l.length) : chunk 1 n (row cB l) = l.map cB := by rw [h]; exact row_chunk rc_B l
@[simp] theorem rchk_L {α : Type} (f : α → List AV) {n : Nat} (l : List (List α)) (h : n = l.length) : chunk 1 n (row (cL f) l) = l.map (cL f) := by rw [h]; exact row_chunk (rc_L f) l
@[simp] theorem rtk_I (k : IntKind) {n : Nat} (l : List Int) (h : n = l.length) : (row (cI k) l).take n = row (cI k) l := by rw [h]; exact row_take1 (rc_I k) l
@[simp] theorem rtk_B {n : Nat} (l : List Bool) (h : n = l.length) : (row cB l).take n = row cB l := by rw [h]; exact row_take1 rc_B l
@[simp] theorem rtk_L {α : Type} (f : α → List AV) {n : Nat} (l : List (List α)) (h : n = l.length) : (row (cL f) l).take n = row (cL f) l := by rw [h]; exact row_take1 (rc_L f) l
@[simp] theorem rset_I (k : IntKind) (l : List Int) (i : Nat) (x : Int) : (row (cI k) l).set i (.int k x) = row (cI k) (l.set i x) := row_set1 (rc_I k) l i rfl
@[simp] theorem rset_B (l : List Bool) (i : Nat) (x : Bool) : (row cB l).set i (.bool x) = row cB (l.set i x) := row_set1 rc_B l i rfl
@[simp] theorem rset_L {α : Type} (f : α → List AV) (l : List (List α)) (i : Nat) (x : List α) : (row (cL f) l).set i (.sl (x.map f)) = row (cL f) (l.set i x) := row_set1 (rc_L f) l i rfl
def mkL {α : Type} (b : Nat) (n : Int) (z : α) : Option (List α) := if 0 ≤ n ∧ 0 < b ∧ (b : Int) * n ≤ 281474976710656 ∧ n ≤ 9223372036854775807 then some (List.replicate n.toNat z) else none
theorem mkL_ok {α : Type} {b : Nat} {n : Int} {z : α} {r : List α} (h : mkL b n z = some r) : (0 ≤ n ∧ 0 < b ∧ (b : Int) * n ≤ 281474976710656 ∧ n ≤ 9223372036854775807) ∧ r = List.replicate n.toNat z := by
  unfold mkL at h; split at h
  · cases h; exact ⟨‹_›, rfl⟩
  · cases h
theorem mkL_len {α : Type} {n : Int} {z : α} {r : List α} (h : r = List.replicate n.toNat z) : r.length = n.toNat := by rw [h, List.length_replicate]
theorem mkL_row {α : Type} {n : Int} {z : α} {r : List α} {c : α → List AV} (h : r = List.replicate n.toNat z) : (List.replicate n.toNat (c z)).flatten = row c r := by rw [h]; unfold row; rw [List.map_replicate]
theorem leCells_nsl {α : Type} (f : α → List AV) : ∀ m : Nat, leCells (List.replicate m .nsl) (row (cL f) (List.replicate m []))
  | 0 => trivial
  | m + 1 => ⟨rfl, .inl rfl, leCells_nsl f m⟩
theorem mkL_nsl {α : Type} {f : α → List AV} {n : Int} {r : List (List α)} (h : r = List.replicate n.toNat []) : leCells (List.replicate n.toNat .nsl) (row (cL f) r) := by rw [h]; exact leCells_nsl f _
def ixC {α : Type} (l : List α) (n : Int) : Option Unit := if 0 ≤ n ∧ n < l.length then some () else none
theorem ixC_ok {α : Type} {l : List α} {n : Int} {u : Unit} (h : ixC l n = some u) : 0 ≤ n ∧ n < l.length := by
  unfold ixC at h; split at h
  · assumption
  · cases h
theorem ixC_nat {α : Type} {l : List α} {n : Int} {u : Unit} (h : ixC l n = some u) : n.toNat + 1 ≤ l.length := by have := ixC_ok h; omega
def clC {α : Type} (b : Nat) (l : List α) : Option (List α) := if 0 < l.length ∧ 0 < b ∧ l.length * b ≤ 140737488355328 then some l else none
theorem clC_ok {α : Type} {b : Nat} {l r : List α} (h : clC b l = some r) : (0 < r.length ∧ Fits b r.length) ∧ l = r := by
  unfold clC at h; split at h
  · cases h; exact ⟨⟨by omega, by unfold Fits; omega⟩, rfl⟩
  · cases h
theorem clC_row {α : Type} (c : α → List AV) (l : List α) : (l.map c).flatten = row c l := rfl
def neC {α : Type} (l : List α) : Option Unit := match l with | [] => none | _ :: _ => some ()
theorem neC_ok {α : Type} {l : List α} {u : Unit} (h : neC l = some u) : l ≠ [] := by cases l with | nil => cases h | cons x l => simp
def modC (k : IntKind) (n d : Int) : Option Int := if d ≠ 0 ∧ inR k n then some n else none
theorem modC_ok {k : IntKind} {n d r : Int} (h : modC k n d = some r) : (d ≠ 0 ∧ Rng k r) ∧ n = r := by
  unfold modC at h; split at h
  · cases h; exact ⟨⟨‹_ ∧ _›.1, ‹_ ∧ _›.2⟩, rfl⟩
  · cases h
def lenN {α : Type} (l : List α) (n : Nat) : Option Unit := if l.length = n then some () else none
theorem lenN_ok {α : Type} {l : List α} {n : Nat} {u : Unit} (h : lenN l n = some u) : l.length = n := by
  unfold lenN at h; split at h
  · assumption
  · cases h
def ltC (a : Int) (n : Nat) : Option Unit := if 0 ≤ a ∧ a < n then some () else none
theorem ltC_ok {a : Int} {n : Nat} {u : Unit} (h : ltC a n = some u) : 0 ≤ a ∧ a < n := by
  unfold ltC at h; split at h
  · assumption
  · cases h
theorem idx_lt {α : Type} {l : List α} {n : Int} {x : α} (h : l[n.toNat]? = some x) : n < l.length := by
  have := (List.getElem?_eq_some_iff.1 h).1; omega
def lenC {α : Type} (r l : List α) : Option Unit := if r.length = l.length then some () else none
theorem lenC_ok {α : Type} {r l : List α} {u : Unit} (h : lenC r l = some u) : r.length = l.length := by
  unfold lenC at h; split at h
  · assumption
  · cases h
section
variable (s : AState) (t : Nat)
@[simp] theorem get_fz : s.fz.get t = (s.get t).fz s.lb s.lblk := rfl
@[simp] theorem n_fz : s.fz.n = s.n := rfl
@[simp] theorem base_fz : s.fz.base = s.base := rfl
@[simp] theorem blocks_fz : s.fz.blocks = (s.blocks.take s.lb).map (AV.fzL s.lb s.lblk) := rfl
@[simp] theorem loans_fz : s.fz.loans t = none := rfl
end
theorem FzR.mono {R R' : AV → AState → Prop} (h : ∀ r s, R r s → R' r s) : ∀ (k : List Bool) (r : AV) (s : AState), FzR k R r s → FzR k R' r s
  | [], r, s, hr => h r s hr
  | true :: k, r, s, hr => ⟨hr.1, FzR.mono h k _ _ hr.2⟩
  | false :: k, r, s, hr => ⟨hr.1, FzR.mono h k _ _ hr.2⟩
theorem raw_of_bodyBF (k : List Bool) {P : Program} {f : FuncId} {fn : Func} {c : Code} {args : List AV} {bs bs' : List (List AV)} {res : AV} (hf : P.funcs[f]? = some fn) (hname : (fn.name == "runtime.NumGoroutine") = false) (hb : fn.body = some c)
    (hn : args.length ≤ fn.ntmps) (hown : args.all (fun x => !x.owns) = true)
    (h : AWp P c (Ret P fn (FzR k fun r s => r = res ∧ EndB s bs' ∧ (bs'.length = s.blocks.length ∨ res.under bs'.length = true))) (start fn.ntmps bs.length args bs)) : Raw P f args bs res bs' :=
  raw_of_bodyF k hf hname hb hn hown fun _ => awp_mono h fun e s hq => by
    have key : ∀ r s, FzR k (fun r s => r = res ∧ EndB s bs' ∧ (bs'.length = s.blocks.length ∨ res.under bs'.length = true)) r s → FzR k (fun r s => r = res ∧ s.Le (endS s bs') ∧ (bs'.length = s.blocks.length ∨ res.under bs'.length = true)) r s :=
      fun r s h => FzR.mono (fun r s h => ⟨h.1, h.2.1.le, h.2.2⟩) k r s h
    cases e with
    | normal =>
      simp only [Ret] at hq ⊢
      split at hq
      · exact ⟨hq.1, key _ _ hq.2⟩
      · exact hq.elim
    | ret =>
      simp only [Ret] at hq ⊢
      split at hq
      · exact ⟨hq.1, key _ _ hq.2⟩
      · exact hq.elim
    | _ => exact hq
attribute [simp] AState.lb AState.lblk AV.fz AV.fzL okFz okFzL okFzB FzOk FzR DropOk underBl AState.dropB
end Go.Abs
set_option linter.unusedVariables false
set_option linter.unusedSimpArgs false
namespace Go.Abs
open Go
def Ghost (s s' : AState) : Prop := ∀ F g a w, Sim F g s a w → ∃ g', Sim F g' s' a w
theorem Ghost.refl (s : AState) : Ghost s s := fun F g a w h => ⟨g, h⟩
theorem Ghost.trans {s s1 s2 : AState} (h : Ghost s s1) (h' : Ghost s1 s2) : Ghost s s2 := fun F g a w hs => by
  obtain ⟨g1, h1⟩ := h F g a w hs
  exact h' F g1 a w h1
theorem Ghost.of_le {s s' : AState} (h : s.Le s') : Ghost s s' := fun F g a w hs => hs.le h
def FreeSteps (P : Program) (Inv : (Nat → Bool) → AState → Prop) : Nat → List Oper → Prop
  | _, [] => True
  | k, o :: l => (∀ L s, L k = false → (edgesOf o).all L = true → Inv L s → AStep P o s fun s' => Inv (fun j => if j = k then true else L j) s') ∧ FreeSteps P Inv (k + 1) l
theorem FreeSteps.get {P : Program} {Inv : (Nat → Bool) → AState → Prop} : ∀ {l : List Oper} {k : Nat}, FreeSteps P Inv k l → ∀ {i : Nat} {o : Oper}, l[i]? = some o →
    ∀ L s, L (k + i) = false → (edgesOf o).all L = true → Inv L s → AStep P o s fun s' => Inv (fun j => if j = k + i then true else L j) s'
  | [], k, _, i, o, hi => by simp at hi
  | x :: l, k, h, 0, o, hi => by simp at hi; subst hi; exact h.1
  | x :: l, k, h, i + 1, o, hi => by
    have := FreeSteps.get h.2 (i := i) (o := o) (by simpa using hi)
    rwa [show k + 1 + i = k + (i + 1) by omega] at this
def freeOk (ops : Array Oper) (r : Nat) : Bool := decide (r ≤ ops.size) && (ops.toList.zipIdx.all fun (o, j) => o.guard.isNone && (edgesOf o).all (· < j)) &&
  (List.range ops.size).all fun j => decide (j < r) || (List.range j).all fun k => ((ancTable ops.toList).getD j []).contains k
theorem any_free {P : Program} {ops : Array Oper} {Q : Exit → Act → World → Prop} {F : Fx} {Inv : (Nat → Bool) → AState → Prop} (hgd : ∀ (j : Nat) o, ops[j]? = some o → o.guard = none ∧ ∀ e, e ∈ edgesOf o → e < j)
    (step : ∀ (i : Nat) o L s, ops[i]? = some o → L i = false → (∀ e, e ∈ edgesOf o → L e = true) → (∀ k, k ∈ (ancTable ops.toList).getD i [] → L k = true) → Inv L s → ∃ s1, Ghost s s1 ∧ AStep P o s1 fun s2 => Inv (fun j => if j = i then true else L j) s2)
    (fin : ∀ L s, (∀ i, i < ops.size → L i = true) → Inv L s → ∀ g a w, Sim F g s a w → Q .normal a w) : ∀ (fuel : Nat) (listed : Array Bool) (s : AState) (g : Gh) (a : Act) (w : World),
    listed.size = ops.size → ((List.range ops.size).filter fun i => !listed.getD i true).length ≤ fuel → (∀ (j : Nat) o, ops[j]? = some o → listed.getD j false = true → ∀ e, e ∈ edgesOf o → listed.getD e false = true) →
    Inv (fun i => listed.getD i false) s → Sim F g s a w → wpAny P .any ops Q fuel listed a w := by
  have hin : ∀ (listed : Array Bool), listed.size = ops.size → ∀ i, i < ops.size → listed.getD i true = listed.getD i false := fun listed hsz i hi => by
    rw [Array.getD_eq_getD_getElem?, Array.getD_eq_getD_getElem?, Array.getElem?_eq_getElem (by omega)]; rfl
  have hall : ∀ (listed : Array Bool), listed.size = ops.size → Region.ready .any ops listed = [] → ∀ i, i < ops.size → listed.getD i false = true := fun listed hsz hr => by
    intro i
    induction i using Nat.strongRecOn with
    | _ i ih =>
      intro hi
      cases hv : listed.getD i false with
      | true => rfl
      | false =>
        have hmem : i ∈ Region.ready .any ops listed := mem_ready.2 ⟨by rw [hin listed hsz i hi]; exact hv, ops[i], Array.getElem?_eq_getElem hi, fun e he hb => by
          have hlt := (hgd i _ (Array.getElem?_eq_getElem hi)).2 e.on (List.mem_map.2 ⟨e, List.mem_filter.2 ⟨by simpa using he, hb⟩, rfl⟩)
          exact ih e.on hlt (by omega)⟩
        rw [hr] at hmem; cases hmem
  intro fuel
  induction fuel with
  | zero =>
    intro listed s g a w hsz hlen hcl hI hs
    have hnil : ((List.range ops.size).filter fun i => !listed.getD i true) = [] := List.eq_nil_of_length_eq_zero (by omega)
    have hr : Region.ready .any ops listed = [] := by
      cases hr : Region.ready .any ops listed with
      | nil => rfl
      | cons i l =>
        have hi : i ∈ Region.ready .any ops listed := by rw [hr]; exact List.mem_cons_self ..
        obtain ⟨h1, o, h2, _⟩ := mem_ready.1 hi
        have : i ∈ ((List.range ops.size).filter fun i => !listed.getD i true) := List.mem_filter.2 ⟨List.mem_range.2 (lt_of_getElem? h2), by simp [h1]⟩
        rw [hnil] at this; cases this
    exact ⟨hr, fin _ s (hall listed hsz hr) hI g a w hs⟩
  | succ fuel ih =>
    intro listed s g a w hsz hlen hcl hI hs
    refine ⟨fun hr => fin _ s (hall listed hsz hr) hI g a w hs, fun i hi => ?_⟩
    obtain ⟨h1, o, h2, h3⟩ := mem_ready.1 hi
    have hilt := lt_of_getElem? h2
    obtain ⟨hgn, _⟩ := hgd i o h2
    have hed : ∀ e, e ∈ edgesOf o → listed.getD e false = true := fun e he => by
      obtain ⟨ed, hed, rfl⟩ := List.mem_map.1 he
      rw [List.mem_filter] at hed
      exact h3 ed (by simpa using hed.1) hed.2
    have hanc : ∀ k, k ∈ (ancTable ops.toList).getD i [] → listed.getD k false = true := fun k hk =>
      mem_anc (ops := ops.toList) (L := fun j => listed.getD j false = true) (fun j o hj => hcl j o (by simpa using hj)) i o (by simpa using h2) hed k hk
    obtain ⟨s0, hgh, hstep⟩ := step i o (fun i => listed.getD i false) s h2 (by rw [← hin listed hsz i hilt]; exact h1) hed hanc hI
    obtain ⟨g0, hs0⟩ := hgh F g a w hs
    obtain ⟨s1, hs1, hI1⟩ := hstep.ok
    obtain ⟨u1, u2, e1, e2, e3⟩ := filter_split (p := fun i => !listed.getD i true) hilt (by simp [h1])
    have hfil : ((List.range ops.size).filter fun k => !(listed.setIfInBounds i true).getD k true) = u1 ++ u2 := by
      rw [← e3]
      apply List.filter_congr
      intro k hk
      rw [List.mem_range] at hk
      rw [getD_listed (n := 0) listed i k true (by omega)]
      by_cases e : k = i
      · simp [e]
      · simp [e]
    have hL : ∀ k, (listed.setIfInBounds i true).getD k false = if k = i then true else listed.getD k false := fun k => by
      rw [Array.getD_eq_getD_getElem?, Array.getElem?_setIfInBounds]
      by_cases e : k = i
      · subst e; simp [hsz, hilt]
      · simp [e, Ne.symm e, Array.getD_eq_getD_getElem?]
    have hgo := hs1 F g0 a w hs0 (wpAny P .any ops Q fuel (listed.setIfInBounds i true)) Q fun g' a' w' hs' =>
      ih (listed.setIfInBounds i true) s1 g' a' w' (by simpa using hsz) (by
        rw [hfil]
        have := hlen
        rw [e1] at this
        simp only [List.length_append, List.length_cons] at this ⊢
        omega) (fun j oj hj hl e he => by
        rw [hL] at hl ⊢
        split
        · rfl
        · split at hl
          · rename_i hji
            subst hji
            rw [h2] at hj; cases hj
            exact hed e he
          · exact hcl j oj hj hl e he) (by rw [funext hL]; exact hI1) hs'
    unfold wpOp
    simp only [h2]
    rw [if_pos (by simp [Region.wanted, hgn])]
    exact .inl hgo
theorem ResK.mono {s : AState} {d : Option Nat} {r : Option Res} {K K' : AState → Prop} (hk : ∀ s, K s → K' s) (h : ResK s d r K) : ResK s d r K' := by
  unfold ResK at h ⊢
  split
  · exact ⟨h.1, hk _ h.2⟩
  · exact h
theorem CallF.mono {P : Program} {f : FuncId} {d : Option Nat} {K K' : AState → Prop} (hk : ∀ s, K s → K' s) : ∀ (k : Nat) (args args0 : List AV) (s : AState), CallF P f k args args0 s d K → CallF P f k args args0 s d K'
  | 0, args, args0, s, h => by
    rcases h with ⟨res, h1, h2, h3, h4⟩ | ⟨res, bs', h1, h2, h3⟩ | ⟨ec, l, h1, h2, h3⟩
    · exact .inl ⟨res, h1, h2, h3, hk _ h4⟩
    · exact .inr (.inl ⟨res, bs', h1, h2, hk _ h3⟩)
    · exact .inr (.inr ⟨ec, l, h1, h2, hk _ h3⟩)
  | k + 1, args, args0, s, h => ⟨h.1, CallF.mono hk k _ _ _ h.2⟩
theorem AStep.mono {P : Program} {o : Oper} {s : AState} {K K' : AState → Prop} (h : AStep P o s K) (hk : ∀ s, K s → K' s) : AStep P o s K' := by
  unfold AStep at h ⊢
  split
  · rename_i c ho
    rw [ho] at h
    simp only at h
    split
    · rename_i x hc
      rw [hc] at h
      simp only at h
      split
      · rename_i f first captured hx
        rw [hx] at h
        obtain ⟨k, h⟩ := h
        exact ⟨k, CallF.mono hk k _ _ _ h⟩
      · rename_i hn
        split at h
        · rename_i f first captured hx; exact (hn _ _ _ hx).elim
        · exact h
    · rename_i b hc
      rw [hc] at h
      exact ResK.mono hk h
    · rename_i h1 h2
      split at h
      · rename_i x hx; exact (h1 x hx).elim
      · rename_i b hb; exact (h2 b hb).elim
      · exact h
  · rename_i t n ps ho
    rw [ho] at h
    rcases h with h | ⟨h1, h2, h⟩
    · exact .inl (ResK.mono hk h)
    · exact .inr ⟨h1, h2, ResK.mono hk h⟩
  · rename_i t x lo ho
    rw [ho] at h
    simp only [TailV] at h ⊢
    split
    · rename_i ec l hx; rw [hx] at h; exact ResK.mono hk h
    · rename_i hn
      split at h
      · rename_i ec l hx; exact (hn _ _ hx).elim
      · exact ResK.mono hk h
  · rename_i h1 h2 h3
    split at h
    · rename_i c hc; exact (h1 _ hc).elim
    · rename_i t n ps hc; exact (h2 _ _ _ hc).elim
    · rename_i t x lo hc; exact (h3 _ _ _ hc).elim
    · exact ResK.mono hk h
theorem awp_region_free {P : Program} (hm : P.follows .mixedOrders = true) {id : Nat} {ops : Array Oper} {Q : Exit → AState → Prop} {s : AState} (r : Nat) (Inv : (Nat → Bool) → AState → Prop) (hok : freeOk ops r = true)
    (h0 : Inv (fun _ => false) s.fresh) (hst : FreeSteps P Inv 0 (ops.toList.take r))
    (fin : ∀ L s', (∀ i, i < r → L i = true) → Inv L s' → ∃ s'', Ghost s' s'' ∧ AOps P ops (Q .normal) (ops.toList.drop r) s'') : AWp P (.region id ops true) Q s := fun F g a w hs => by
  simp only [freeOk, Bool.and_eq_true] at hok
  obtain ⟨⟨hrs, hok1⟩, hok2⟩ := hok
  have hrs : r ≤ ops.size := by simpa using hrs
  have hgd : ∀ (j : Nat) o, ops[j]? = some o → o.guard = none ∧ ∀ e, e ∈ edgesOf o → e < j := fun j o hj => by
    have := (List.all_eq_true.1 hok1) (o, j) (mem_zipIdx' hj)
    simp only [Bool.and_eq_true, Option.isNone_iff_eq_none, List.all_eq_true, decide_eq_true_eq] at this
    exact this
  have htl : ∀ j, j < ops.size → r ≤ j → ∀ k, k < j → k ∈ (ancTable ops.toList).getD j [] := fun j hj hr k hk => by
    have := (List.all_eq_true.1 hok2) j (List.mem_range.2 hj)
    simp only [Bool.or_eq_true, decide_eq_true_eq] at this
    rcases this with h | h
    · omega
    · simpa using (List.all_eq_true.1 h) k (List.mem_range.2 hk)
  let Inv' : (Nat → Bool) → AState → Prop := fun L s => ((∀ j, r ≤ j → L j = false) ∧ Inv L s) ∨ ∃ k, r < k ∧ (∀ j, j < k → L j = true) ∧ (∀ j, k ≤ j → L j = false) ∧ AOps P ops (Q .normal) (ops.toList.drop k) s
  have hdrop : ∀ (i : Nat) o, ops[i]? = some o → ops.toList.drop i = o :: ops.toList.drop (i + 1) := fun i o h => by
    have hi : i < ops.toList.length := by simpa using lt_of_getElem? h
    rw [List.drop_eq_getElem_cons hi]
    congr 1
    have := List.getElem?_eq_getElem hi
    rw [Array.getElem?_toList, h] at this
    exact (Option.some.inj this).symm
  have hops : ∀ (i : Nat) o s, ops[i]? = some o → AOps P ops (Q .normal) (ops.toList.drop i) s → AStep P o s fun s2 => AOps P ops (Q .normal) (ops.toList.drop (i + 1)) s2 := fun i o s h hA => by
    rw [hdrop i o h] at hA
    simp only [AOps, (hgd i o h).1] at hA
    exact hA
  have mono : ∀ (o : Oper) (s : AState) (K K' : AState → Prop), AStep P o s K → (∀ s, K s → K' s) → AStep P o s K' := fun o s K K' h hk => h.mono hk
  refine wp_region_any hm (any_free (F := F) (Inv := Inv') hgd ?_ ?_ ops.size _ s.fresh g a _ (by simp) (Nat.le_trans (List.length_filter_le _ _) (by simp)) ?_ ?_ hs.fresh.drew)
  · intro i o L s hi hLi hed hanc hI
    rcases hI with ⟨hL, hI⟩ | ⟨k, hk, hk1, hk2, hA⟩
    · by_cases hir : i < r
      · refine ⟨s, .refl s, ?_⟩
        have h1 := FreeSteps.get hst (i := i) (o := o) (by rw [List.getElem?_take, if_pos hir]; simpa using hi) L s (by simpa using hLi) (List.all_eq_true.2 hed) hI
        simp only [Nat.zero_add] at h1
        exact mono o s _ _ h1 fun s2 h2 => .inl ⟨fun j hj => by show (if j = i then true else L j) = false; rw [if_neg (by omega)]; exact hL j hj, h2⟩
      · have hlt := lt_of_getElem? hi
        have hir' : i = r := by
          rcases Nat.lt_or_ge r i with h | h
          · have := hanc r (htl i hlt (by omega) r h)
            rw [hL r (Nat.le_refl _)] at this; cases this
          · omega
        subst hir'
        have hLall : ∀ j, j < i → L j = true := fun j hj => hanc j (htl i hlt (Nat.le_refl _) j hj)
        obtain ⟨s'', hgh, hA⟩ := fin L s hLall hI
        refine ⟨s'', hgh, mono o s'' _ _ (hops i o s'' hi hA) fun s2 h2 => .inr ⟨i + 1, by omega, fun j hj => ?_, fun j hj => ?_, h2⟩⟩
        · show (if j = i then true else L j) = true
          split
          · rfl
          · exact hLall j (by omega)
        · show (if j = i then true else L j) = false
          rw [if_neg (by omega)]; exact hL j (by omega)
    · have hlt := lt_of_getElem? hi
      have hik : k ≤ i := by
        rcases Nat.lt_or_ge i k with h | h
        · rw [hk1 i h] at hLi; cases hLi
        · exact h
      have hik' : i = k := by
        rcases Nat.lt_or_ge k i with h | h
        · have := hanc k (htl i hlt (by omega) k h)
          rw [hk2 k (Nat.le_refl _)] at this; cases this
        · omega
      subst hik'
      refine ⟨s, .refl s, mono o s _ _ (hops i o s hi hA) fun s2 h2 => .inr ⟨i + 1, by omega, fun j hj => ?_, fun j hj => ?_, h2⟩⟩
      · show (if j = i then true else L j) = true
        split
        · rfl
        · exact hk1 j (by omega)
      · show (if j = i then true else L j) = false
        rw [if_neg (by omega)]; exact hk2 j (by omega)
  · intro L s hL hI g a w hs
    rcases hI with ⟨hLr, hI⟩ | ⟨k, hk, hk1, hk2, hA⟩
    · have hsz : ops.size ≤ r := by
        rcases Nat.lt_or_ge r ops.size with h | h
        · have := hL r h
          rw [hLr r (Nat.le_refl _)] at this; cases this
        · exact h
      obtain ⟨s'', hgh, hA⟩ := fin L s (fun i hi => hL i (by omega)) hI
      rw [List.drop_eq_nil_of_le (by simpa using hsz)] at hA
      obtain ⟨g', hs'⟩ := hgh F g a w hs
      exact ⟨g', s'', hs', hA⟩
    · have hsz : ops.size ≤ k := by
        rcases Nat.lt_or_ge k ops.size with h | h
        · have := hL k h
          rw [hk2 k (Nat.le_refl _)] at this; cases this
        · exact h
      rw [List.drop_eq_nil_of_le (by simpa using hsz)] at hA
      exact ⟨g, s, hs, hA⟩
  · intro j o hj hl
    rw [Array.getD_eq_getD_getElem?, Array.getElem?_replicate] at hl
    split at hl <;> cases hl
  · refine .inl ⟨fun j _ => ?_, ?_⟩
    · show (Array.replicate ops.size false).getD j false = false
      rw [Array.getD_eq_getD_getElem?, Array.getElem?_replicate]; split <;> rfl
    · have : (fun i => (Array.replicate ops.size false).getD i false) = fun _ => false := by
        funext i
        rw [Array.getD_eq_getD_getElem?, Array.getElem?_replicate]; split <;> rfl
      show Inv (fun i => (Array.replicate ops.size false).getD i false) s.fresh
      rw [this]; exact h0
structure PermOk (f fi : Nat → Nat) (n base : Nat) : Prop where
  lt : ∀ b, b < n → f b < n ∧ fi b < n
  inv : ∀ b, b < n → fi (f b) = b ∧ f (fi b) = b
  fix : ∀ b, b < base → f b = b
  hb : base ≤ n
def AState.perm (f fi : Nat → Nat) (s : AState) : AState :=
  { tmps := fun t => (s.tmps t).ren f, loans := fun _ => none, n := s.n, base := s.base, blocks := (List.range s.blocks.length).map fun j => AV.renL f (s.blocks.getD (fi j) []) }
def Gh.permOwn (g : Gh) (n : Nat) (fi : Nat → Nat) : Place → Option Nat
  | .cell b o => if b < n then g.own (.cell (fi b) o) else none
  | .tmp t => g.own (.tmp t)
def Place.pre (fi : Nat → Nat) : Place → Place
  | .cell b o => .cell (fi b) o
  | .tmp t => .tmp t
theorem Sim.perm {F : Fx} {g : Gh} {s : AState} {a : Act} {w : World} (h : Sim F g s a w) {f fi : Nat → Nat} (hp : PermOk f fi s.blocks.length s.base) : ∃ g', Sim F g' (s.perm f fi) a w := by
  have hl := h.sto.len
  have hσ : ∀ (b k : Nat), g.σ[b]? = some k → ((List.range s.blocks.length).map fun j => g.σ.getD (fi j) 0)[f b]? = some k := fun b k hb => by
    have hlt := (List.getElem?_eq_some_iff.1 hb).1
    rw [List.getElem?_map, List.getElem?_range (hp.lt b (by omega)).1]
    simp only [Option.map_some, (hp.inv b (by omega)).1]
    rw [List.getD_eq_getElem?_getD, hb]; rfl
  have hσ' : ∀ (i k : Nat), ((List.range s.blocks.length).map fun j => g.σ.getD (fi j) 0)[i]? = some k → i < s.blocks.length ∧ g.σ[fi i]? = some k := fun i k hi => by
    have hlt := (List.getElem?_eq_some_iff.1 hi).1
    simp only [List.length_map, List.length_range] at hlt
    rw [List.getElem?_map, List.getElem?_range hlt] at hi
    refine ⟨hlt, ?_⟩
    rw [← hi]
    exact some_getD 0 (by rw [hl]; exact (hp.lt i hlt).2)
  have hmem : ∀ k, k ∈ ((List.range s.blocks.length).map fun j => g.σ.getD (fi j) 0) → k ∈ g.σ := fun k hk => by
    obtain ⟨i, hi⟩ := List.getElem?_of_mem hk
    exact List.mem_of_getElem? (hσ' i k hi).2
  have hown : ∀ p k, g.permOwn s.blocks.length fi p = some k → ∃ q, g.own q = some k ∧ (∀ p', g.permOwn s.blocks.length fi p' = some k → p' = p) := fun p k hk => by
    have key : ∀ p, g.permOwn s.blocks.length fi p = some k → g.own (p.pre fi) = some k ∧ (∀ b o, p = .cell b o → b < s.blocks.length) := fun p hk => by
      cases p with
      | tmp t => exact ⟨hk, fun b o e => by cases e⟩
      | cell b o =>
        simp only [Gh.permOwn] at hk
        split at hk
        · rename_i hlt; exact ⟨hk, fun b' o' e => by cases e; exact hlt⟩
        · cases hk
    obtain ⟨h1, h2⟩ := key p hk
    refine ⟨_, h1, fun p' hk' => ?_⟩
    obtain ⟨h3, h4⟩ := key p' hk'
    have := h.sto.ownInj _ _ k h3 h1
    cases p with
    | tmp t =>
      cases p' with
      | tmp t' => exact this
      | cell b' o' => cases this
    | cell b o =>
      cases p' with
      | tmp t' => cases this
      | cell b' o' =>
        simp only [Place.pre, Place.cell.injEq] at this
        have e1 := (hp.inv b (h2 b o rfl)).2
        have e2 := (hp.inv b' (h4 b' o' rfl)).2
        rw [← this.1, e2] at e1
        rw [e1, this.2]
  refine ⟨{ g with σ := (List.range s.blocks.length).map fun j => g.σ.getD (fi j) 0, own := g.permOwn s.blocks.length fi }, ?_⟩
  exact {
    ext := { h.ext with
      imm := h.ext.imm
      immNew := h.ext.immNew
      σ := fun b k hb => by
        have h1 := h.ext.σ b k hb
        have h2 := (List.getElem?_eq_some_iff.1 hb).1
        have h3 := hσ b k h1
        rw [hp.fix b (by have := h.base; omega)] at h3
        exact h3
      mineσ := fun k hk => h.ext.mineσ k (hmem k hk)
      mineOwn := fun p k hk => by obtain ⟨q, hq, _⟩ := hown p k hk; exact h.ext.mineOwn q k hq }
    sto := {
      gok := h.sto.gok
      imm := h.sto.imm
      immσ := fun x v hx hm => h.sto.immσ x v hx (hmem _ hm)
      len := by simp [AState.perm]
      nodup := by
        show ((List.range s.blocks.length).map fun j => g.σ.getD (fi j) 0).Nodup
        unfold List.Nodup
        rw [List.pairwise_iff_getElem]
        intro i j hi hj hij
        simp only [List.length_map, List.length_range] at hi hj
        simp only [List.getElem_map, List.getElem_range]
        intro e
        have a1 : fi i < g.σ.length := by rw [hl]; exact (hp.lt i hi).2
        have a2 : fi j < g.σ.length := by rw [hl]; exact (hp.lt j hj).2
        have b1 := some_getD 0 a1
        have b2 := some_getD 0 a2
        rw [e] at b1
        obtain ⟨_, c1⟩ := List.getElem?_eq_some_iff.1 b1
        obtain ⟨_, c2⟩ := List.getElem?_eq_some_iff.1 b2
        have e2 := nodup_inj h.sto.nodup a1 a2 (by rw [c1, c2])
        have d1 := (hp.inv i hi).2
        have d2 := (hp.inv j hj).2
        rw [e2, d2] at d1
        omega
      blk := fun i blk k hb hk => by
        obtain ⟨hlt, hk2⟩ := hσ' i k hk
        simp only [AState.perm, List.getElem?_map, List.getElem?_range hlt, Option.map_some, Option.some.injEq] at hb
        subst hb
        obtain ⟨c, ty, e1, e2, e3⟩ := h.sto.blk (fi i) _ k (some_getD [] (hp.lt i hlt).2) hk2
        refine ⟨c, ty, e1, by rw [renL_length]; exact e2, fun j x hx => ?_⟩
        rw [renL_get] at hx
        cases hy : (s.blocks.getD (fi i) [])[j]? with
        | none => rw [hy] at hx; cases hx
        | some y =>
          rw [hy] at hx; cases hx
          obtain ⟨q1, q2, q3⟩ := e3 j y hy
          refine ⟨(ren_cellOk _ _ _ (by rw [renL_length])).2 q1, q2.ren hσ, ?_⟩
          show OwnsBy g.imm w (if i < s.blocks.length then g.own (.cell (fi i) j) else none) _ _
          rw [if_pos hlt]
          exact (OwnsBy.ren _).2 q3
      ownσ := fun p k hk => by obtain ⟨q, hq, _⟩ := hown p k hk; exact ⟨fun hm => (h.sto.ownσ q k hq).1 (hmem _ hm), (h.sto.ownσ q k hq).2⟩
      ownInj := fun p q k hp' hq => by obtain ⟨_, _, h2⟩ := hown q k hq; exact h2 p hp' }
    size := h.size
    tmps := fun t => ⟨(h.tmps t).1.ren hσ, (OwnsBy.ren _).2 (h.tmps t).2⟩
    loans := fun t p hp => by cases hp
    defers := h.defers
    base := h.base }
theorem awp_perm {P : Program} {c : Code} {Q : Exit → AState → Prop} {s : AState} (f fi : Nat → Nat) (hp : PermOk f fi s.blocks.length s.base) (h : AWp P c Q (s.perm f fi)) : AWp P c Q s := fun F g a w hs => by
  obtain ⟨g', hs'⟩ := hs.perm hp
  exact h F g' a w hs'
@[simp] theorem renL_replicate (f : Nat → Nat) (x : AV) : ∀ n : Nat, AV.renL f (List.replicate n x) = List.replicate n (x.ren f)
  | 0 => rfl
  | n + 1 => by rw [List.replicate_succ, List.replicate_succ, AV.renL, renL_replicate f x n]
theorem nodup_full : ∀ (n : Nat) (P : List Nat), P.Nodup → P.length = n → (∀ x, x ∈ P → x < n) → ∀ x, x < n → x ∈ P
  | 0, _, _, _, _, x, hx => by omega
  | n + 1, P, h1, h2, h3, x, hx => by
    by_cases hn : n ∈ P
    · by_cases e : x = n
      · rw [e]; exact hn
      · have := nodup_full n (P.erase n) (h1.erase n) (by rw [List.length_erase_of_mem hn]; omega) (fun y hy => by
          have h4 := (h1.mem_erase_iff).1 hy
          have := h3 y h4.2
          have := h4.1
          omega) x (by omega)
        exact List.mem_of_mem_erase this
    · cases P with
      | nil => simp at h2
      | cons y P =>
        rw [List.nodup_cons] at h1
        have hlt : ∀ z, z ∈ y :: P → z < n := fun z hz => by
          have := h3 z hz
          have : z ≠ n := fun e => hn (by rw [← e]; exact hz)
          omega
        have := nodup_full n P h1.2 (by simpa using h2) (fun z hz => hlt z (List.mem_cons_of_mem _ hz)) y (hlt y (List.mem_cons_self ..))
        exact (h1.1 this).elim
def upd (L : Nat → Bool) (i : Nat) : Nat → Bool := fun j => if j = i then true else L j
structure NPos (N : List (Nat × List AV)) (L : Nat → Bool) (pos : Nat → Nat) (bl : List (List AV)) : Prop where
  len : bl.length = (N.filter fun q => L q.1).length
  at_ : ∀ q, q ∈ N → L q.1 = true → bl[pos q.1]? = some q.2
  inj : ∀ q q', q ∈ N → q' ∈ N → L q.1 = true → L q'.1 = true → pos q.1 = pos q'.1 → q.1 = q'.1
theorem NPos.start (N : List (Nat × List AV)) (pos : Nat → Nat) : NPos N (fun _ => false) pos [] :=
  ⟨by rw [List.filter_eq_nil_iff.2 (by simp)]; rfl, fun _ _ h => (by cases h), fun _ _ _ _ h => (by cases h)⟩
theorem filter_upd {L : Nat → Bool} {i : Nat} (hL : L i = false) : ∀ (N : List (Nat × List AV)), (N.map (·.1)).Nodup → (∀ q, q ∈ N → q.1 ≠ i) → (N.filter fun q => if q.1 = i then true else L q.1) = N.filter fun q => L q.1
  | [], _, _ => rfl
  | q :: N, hnd, hne => by
    have h1 := hne q (List.mem_cons_self ..)
    have := filter_upd hL N (List.nodup_cons.1 hnd).2 (fun q hq => hne q (List.mem_cons_of_mem _ hq))
    simp only [List.filter_cons, if_neg h1, this]
theorem filter_upd1 {L : Nat → Bool} {i : Nat} (hL : L i = false) : ∀ (N : List (Nat × List AV)), (N.map (·.1)).Nodup → i ∈ N.map (·.1) → (N.filter fun q => if q.1 = i then true else L q.1).length = (N.filter fun q => L q.1).length + 1
  | [], _, h => by simp at h
  | q :: N, hnd, hm => by
    rw [List.map_cons, List.nodup_cons] at hnd
    by_cases e : q.1 = i
    · have := filter_upd (i := i) hL N hnd.2 (fun q' hq' e' => hnd.1 (by rw [e, ← e']; exact List.mem_map.2 ⟨q', hq', rfl⟩))
      simp only [List.filter_cons, e, if_true, hL, Bool.false_eq_true, if_false, this, List.length_cons]
    · have hm' : i ∈ N.map (·.1) := by
        rcases List.mem_cons.1 hm with h | h
        · exact (e h.symm).elim
        · exact h
      have := filter_upd1 hL N hnd.2 hm'
      simp only [List.filter_cons, if_neg e]
      split
      · simp only [List.length_cons, this]
      · exact this
theorem NPos.push {N : List (Nat × List AV)} {L : Nat → Bool} {pos : Nat → Nat} {bl : List (List AV)} (h : NPos N L pos bl) {i : Nat} {blk : List AV} (hq : (i, blk) ∈ N) (hnd : (N.map (·.1)).Nodup) (hL : L i = false) :
    NPos N (fun j => if j = i then true else L j) (fun j => if j = i then bl.length else pos j) (bl ++ [blk]) := by
  have hlt : ∀ q, q ∈ N → L q.1 = true → pos q.1 < bl.length := fun q hq hl => (List.getElem?_eq_some_iff.1 (h.at_ q hq hl)).1
  have huniq : ∀ q, q ∈ N → q.1 = i → q.2 = blk := fun q hq' e => by
    obtain ⟨a, ha⟩ := List.getElem?_of_mem hq
    obtain ⟨b, hb⟩ := List.getElem?_of_mem hq'
    have h1 : (N.map (·.1))[a]? = some i := by rw [List.getElem?_map, ha]; rfl
    have h2 : (N.map (·.1))[b]? = some i := by rw [List.getElem?_map, hb]; simp [e]
    obtain ⟨l1, e1⟩ := List.getElem?_eq_some_iff.1 h1
    obtain ⟨l2, e2⟩ := List.getElem?_eq_some_iff.1 h2
    have := nodup_inj hnd l1 l2 (by rw [e1, e2])
    subst this
    rw [ha] at hb; cases hb; rfl
  refine ⟨?_, fun q hq' hl => ?_, fun q q' hq1 hq2 hl1 hl2 hp => ?_⟩
  · rw [List.length_append, filter_upd1 hL N hnd (List.mem_map.2 ⟨_, hq, rfl⟩), h.len]; rfl
  · by_cases e : q.1 = i
    · simp only [if_pos e]
      rw [huniq q hq' e]; simp
    · simp only [if_neg e] at hl ⊢
      rw [List.getElem?_append_left (hlt q hq' hl)]; exact h.at_ q hq' hl
  · by_cases e1 : q.1 = i <;> by_cases e2 : q'.1 = i
    · rw [e1, e2]
    · simp only [if_pos e1, if_neg e2] at hp hl2
      have := hlt q' hq2 hl2; omega
    · simp only [if_neg e1, if_pos e2] at hp hl1
      have := hlt q hq1 hl1; omega
    · simp only [if_neg e1, if_neg e2] at hp hl1 hl2
      exact h.inj q q' hq1 hq2 hl1 hl2 hp
theorem NPos.skip {N : List (Nat × List AV)} {L : Nat → Bool} {pos : Nat → Nat} {bl : List (List AV)} (h : NPos N L pos bl) {i : Nat} (hi : N.all (fun q => q.1 != i) = true) : NPos N (fun j => if j = i then true else L j) pos bl := by
  have hne : ∀ q, q ∈ N → q.1 ≠ i := fun q hq => by have := (List.all_eq_true.1 hi) q hq; simpa using this
  refine ⟨?_, fun q hq hl => ?_, fun q q' hq1 hq2 hl1 hl2 hp => ?_⟩
  · rw [h.len]
    congr 1
    apply List.filter_congr
    intro q hq
    rw [if_neg (hne q hq)]
  · simp only [if_neg (hne q hq)] at hl; exact h.at_ q hq hl
  · simp only [if_neg (hne q hq1)] at hl1
    simp only [if_neg (hne q' hq2)] at hl2
    exact h.inj q q' hq1 hq2 hl1 hl2 hp
def AState.renamed (s : AState) (f : Nat → Nat) (bs : List (List AV)) : AState := ⟨fun t => (s.tmps t).ren f, fun _ => none, s.n, s.base, bs⟩
section
variable (s : AState) (f : Nat → Nat) (bs : List (List AV)) (t : Nat)
@[simp] theorem get_renamed : (s.renamed f bs).get t = (s.get t).ren f := rfl
@[simp] theorem n_renamed : (s.renamed f bs).n = s.n := rfl
@[simp] theorem base_renamed : (s.renamed f bs).base = s.base := rfl
@[simp] theorem blocks_renamed : (s.renamed f bs).blocks = bs := rfl
@[simp] theorem loans_renamed : (s.renamed f bs).loans t = none := rfl
end
theorem NPos.ghost {N : List (Nat × List AV)} {L : Nat → Bool} {pos : Nat → Nat} {bl pre : List (List AV)} (h : NPos N L pos bl) (hnd : (N.map (·.1)).Nodup) (hall : ∀ q, q ∈ N → L q.1 = true) {s : AState} (hb : s.blocks = pre ++ bl) (hbase : s.base ≤ pre.length) :
    ∃ f : Nat → Nat, (∀ b, b < pre.length → f b = b) ∧ (∀ (k : Nat) q, N[k]? = some q → f (pre.length + pos q.1) = pre.length + k) ∧
      Ghost s (s.renamed f (pre.map (AV.renL f) ++ N.map fun q => AV.renL f q.2)) := by
  have hlen : bl.length = N.length := by
    rw [h.len, List.filter_eq_self.2 (fun q hq => hall q hq)]
  generalize hP : N.map (fun q => pos q.1) = P
  have hPl : P.length = N.length := by rw [← hP, List.length_map]
  have hPget : ∀ (k : Nat) q, N[k]? = some q → P[k]? = some (pos q.1) := fun k q hk => by rw [← hP, List.getElem?_map, hk]; rfl
  have hlt : ∀ q, q ∈ N → pos q.1 < N.length := fun q hq => by rw [← hlen]; exact (List.getElem?_eq_some_iff.1 (h.at_ q hq (hall q hq))).1
  have hPnd : P.Nodup := by
    unfold List.Nodup
    rw [List.pairwise_iff_getElem]
    intro i j hi hj hij e
    rw [hPl] at hi hj
    have a1 := hPget i _ (List.getElem?_eq_getElem hi)
    have a2 := hPget j _ (List.getElem?_eq_getElem hj)
    obtain ⟨_, b1⟩ := List.getElem?_eq_some_iff.1 a1
    obtain ⟨_, b2⟩ := List.getElem?_eq_some_iff.1 a2
    have := h.inj _ _ (List.getElem_mem hi) (List.getElem_mem hj) (hall _ (List.getElem_mem hi)) (hall _ (List.getElem_mem hj)) (by rw [← b1, ← b2, e])
    have h5 : (N.map (·.1))[i]? = some (N[i].1) := by rw [List.getElem?_map, List.getElem?_eq_getElem hi]; rfl
    have h6 : (N.map (·.1))[j]? = some (N[j].1) := by rw [List.getElem?_map, List.getElem?_eq_getElem hj]; rfl
    obtain ⟨l1, e1⟩ := List.getElem?_eq_some_iff.1 h5
    obtain ⟨l2, e2⟩ := List.getElem?_eq_some_iff.1 h6
    have := nodup_inj hnd l1 l2 (by rw [e1, e2, this])
    omega
  have hfull := nodup_full N.length P hPnd hPl (fun x hx => by
    rw [← hP] at hx
    obtain ⟨q, hq, rfl⟩ := List.mem_map.1 hx
    exact hlt q hq)
  have hfi : ∀ k, k < N.length → P.idxOf (P.getD k 0) = k := fun k hk => by
    rw [List.getD_eq_getElem?_getD, List.getElem?_eq_getElem (by omega)]
    simp only [Option.getD_some]
    exact hPnd.idxOf_getElem k (by omega)
  have hPlt : ∀ k, k < N.length → P.getD k 0 < N.length := fun k hk => by
    rw [List.getD_eq_getElem?_getD, hPget k _ (List.getElem?_eq_getElem hk)]
    exact hlt _ (List.getElem_mem hk)
  have hidx : ∀ x, x < N.length → P.idxOf x < N.length ∧ P.getD (P.idxOf x) 0 = x := fun x hx => by
    have hm := hfull x hx
    have hl : P.idxOf x < P.length := List.idxOf_lt_length_of_mem hm
    refine ⟨by omega, ?_⟩
    rw [List.getD_eq_getElem?_getD, List.getElem?_eq_getElem hl]
    simp
  have hp : PermOk (fun b => if b < pre.length then b else pre.length + P.idxOf (b - pre.length)) (fun j => if j < pre.length then j else pre.length + P.getD (j - pre.length) 0) s.blocks.length s.base := by
    have hsl : s.blocks.length = pre.length + N.length := by rw [hb, List.length_append, hlen]
    refine ⟨fun b hb' => ?_, fun b hb' => ?_, fun b hb' => if_pos (by omega), by omega⟩
    · constructor
      · split
        · omega
        · have := (hidx (b - pre.length) (by omega)).1; omega
      · split
        · omega
        · have := hPlt (b - pre.length) (by omega); omega
    · constructor
      · by_cases e : b < pre.length
        · simp [e]
        · have := hidx (b - pre.length) (by omega)
          simp only [if_neg e]
          rw [if_neg (by omega), Nat.add_sub_cancel_left, this.2]; omega
      · by_cases e : b < pre.length
        · simp [e]
        · have := hfi (b - pre.length) (by omega)
          simp only [if_neg e]
          rw [if_neg (by omega), Nat.add_sub_cancel_left, this]; omega
  refine ⟨fun b => if b < pre.length then b else pre.length + P.idxOf (b - pre.length), fun b hb' => if_pos hb', fun k q hk => ?_, fun F g a w hs => ?_⟩
  · have hk' := (List.getElem?_eq_some_iff.1 hk).1
    simp only
    rw [if_neg (by omega), Nat.add_sub_cancel_left]
    have h1 := hPget k q hk
    have h2 := hfi k hk'
    rw [List.getD_eq_getElem?_getD, h1] at h2
    simp only [Option.getD_some] at h2
    rw [h2]
  · obtain ⟨g', hs'⟩ := hs.perm hp
    refine ⟨g', ?_⟩
    have hbl : (s.perm (fun b => if b < pre.length then b else pre.length + P.idxOf (b - pre.length)) (fun j => if j < pre.length then j else pre.length + P.getD (j - pre.length) 0)).blocks =
        pre.map (AV.renL fun b => if b < pre.length then b else pre.length + P.idxOf (b - pre.length)) ++ N.map fun q => AV.renL (fun b => if b < pre.length then b else pre.length + P.idxOf (b - pre.length)) q.2 := by
      apply List.ext_getElem?
      intro j
      have hsl : s.blocks.length = pre.length + N.length := by rw [hb, List.length_append, hlen]
      simp only [AState.perm, List.getElem?_map]
      by_cases hj : j < pre.length
      · rw [List.getElem?_range (by omega), List.getElem?_append_left (by simpa using hj), List.getElem?_map]
        simp only [Option.map_some, if_pos hj, hb]
        rw [List.getD_eq_getElem?_getD, List.getElem?_append_left hj, List.getElem?_eq_getElem hj]; rfl
      · by_cases hj2 : j < pre.length + N.length
        · rw [List.getElem?_range (by omega), List.getElem?_append_right (by simpa using hj), List.getElem?_map, List.length_map, List.getElem?_eq_getElem (by omega)]
          simp only [Option.map_some, if_neg hj, hb]
          have h1 := hPget (j - pre.length) _ (List.getElem?_eq_getElem (by omega))
          rw [List.getD_eq_getElem?_getD, List.getElem?_append_right (by omega), Nat.add_sub_cancel_left, List.getD_eq_getElem?_getD (l := P), h1]
          simp only [Option.getD_some]
          rw [h.at_ _ (List.getElem_mem (by omega)) (hall _ (List.getElem_mem (by omega)))]; rfl
        · rw [List.getElem?_eq_none (by simp; omega), List.getElem?_eq_none (by simp; omega)]; rfl
    rw [← hbl]
    exact hs'
end Go.Abs
set_option linter.unusedVariables false
set_option linter.unusedSimpArgs false
set_option maxRecDepth 100000
set_option maxHeartbeats 1000000
namespace Go.Proofs.Ythbjlmoaceaeeaa
open Go Go.Abs
structure Api.Instr where
  Op : Int
  A : Int
  B : Int
  deriving DecidableEq
@[simp] def Api.Instr.c (x : Api.Instr) : List AV := [.int .i64 x.Op, .int .i64 x.A, .int .i64 x.B]
@[simp] theorem okE_Api_Instr (l : List Api.Instr) : okElems 3 (l.map Api.Instr.c) := okE_map (fun x => by simp) l
@[simp] theorem EL_Api_Instr (l : List Api.Instr) : EL 3 (l.map Api.Instr.c) := EL_map (fun x => by simp) l
theorem rc_Api_Instr : RowC Api.Instr.c 3 := fun x => by simp [AV.inert, AV.flat]
@[simp] theorem rlen_Api_Instr (l : List Api.Instr) : (row Api.Instr.c l).length = l.length * 3 := row_len rc_Api_Instr l
@[simp] theorem rine_Api_Instr (l : List Api.Instr) : (row Api.Instr.c l).all AV.inert = true := row_inert rc_Api_Instr l
@[simp] theorem rund_Api_Instr (m : Nat) (l : List Api.Instr) : AV.underL m (row Api.Instr.c l) = true := row_under rc_Api_Instr m l
@[simp] theorem rfz_Api_Instr (m : Nat) (blk : List AV) (l : List Api.Instr) : AV.fzL m blk (row Api.Instr.c l) = row Api.Instr.c l := row_fz rc_Api_Instr m blk l
@[simp] theorem rren_Api_Instr (f : Nat → Nat) (l : List Api.Instr) : AV.renL f (row Api.Instr.c l) = row Api.Instr.c l := row_ren rc_Api_Instr f l
@[simp] theorem rok_Api_Instr (m : Nat) (blk : List AV) (l : List Api.Instr) : okFzL m blk (row Api.Instr.c l) = true := row_okFz rc_Api_Instr m blk l
@[simp] theorem rchk_Api_Instr (l : List Api.Instr) {k : Nat} (h : k = l.length) : chunk 3 k (row Api.Instr.c l) = l.map Api.Instr.c := by rw [h]; exact row_chunk rc_Api_Instr l
@[simp] theorem rtk_Api_Instr (l : List Api.Instr) {k : Nat} (h : k = l.length) : (row Api.Instr.c l).take (k * 3) = row Api.Instr.c l := by rw [h]; exact row_take rc_Api_Instr l
structure Api.Fun where
  Captures : Int
  Locals : Int
  Depth : Int
  Code : (List Api.Instr)
  deriving DecidableEq
@[simp] def Api.Fun.c (x : Api.Fun) : List AV := [.int .i64 x.Captures, .int .i64 x.Locals, .int .i64 x.Depth, .sl (x.Code.map Api.Instr.c)]
@[simp] theorem okE_Api_Fun (l : List Api.Fun) : okElems 4 (l.map Api.Fun.c) := okE_map (fun x => by simp) l
@[simp] theorem EL_Api_Fun (l : List Api.Fun) : EL 4 (l.map Api.Fun.c) := EL_map (fun x => by simp) l
theorem rc_Api_Fun : RowC Api.Fun.c 4 := fun x => by simp [AV.inert, AV.flat]
@[simp] theorem rlen_Api_Fun (l : List Api.Fun) : (row Api.Fun.c l).length = l.length * 4 := row_len rc_Api_Fun l
@[simp] theorem rine_Api_Fun (l : List Api.Fun) : (row Api.Fun.c l).all AV.inert = true := row_inert rc_Api_Fun l
@[simp] theorem rund_Api_Fun (m : Nat) (l : List Api.Fun) : AV.underL m (row Api.Fun.c l) = true := row_under rc_Api_Fun m l
@[simp] theorem rfz_Api_Fun (m : Nat) (blk : List AV) (l : List Api.Fun) : AV.fzL m blk (row Api.Fun.c l) = row Api.Fun.c l := row_fz rc_Api_Fun m blk l
@[simp] theorem rren_Api_Fun (f : Nat → Nat) (l : List Api.Fun) : AV.renL f (row Api.Fun.c l) = row Api.Fun.c l := row_ren rc_Api_Fun f l
@[simp] theorem rok_Api_Fun (m : Nat) (blk : List AV) (l : List Api.Fun) : okFzL m blk (row Api.Fun.c l) = true := row_okFz rc_Api_Fun m blk l
@[simp] theorem rchk_Api_Fun (l : List Api.Fun) {k : Nat} (h : k = l.length) : chunk 4 k (row Api.Fun.c l) = l.map Api.Fun.c := by rw [h]; exact row_chunk rc_Api_Fun l
@[simp] theorem rtk_Api_Fun (l : List Api.Fun) {k : Nat} (h : k = l.length) : (row Api.Fun.c l).take (k * 4) = row Api.Fun.c l := by rw [h]; exact row_take rc_Api_Fun l
structure Api.Program where
  Funs : (List Api.Fun)
  Texts : (List (List UInt8))
  Main : Int
  deriving DecidableEq
@[simp] def Api.Program.c (x : Api.Program) : List AV := [.sl (x.Funs.map Api.Fun.c), .sl (x.Texts.map cS), .int .i64 x.Main]
@[simp] theorem okE_Api_Program (l : List Api.Program) : okElems 3 (l.map Api.Program.c) := okE_map (fun x => by simp) l
@[simp] theorem EL_Api_Program (l : List Api.Program) : EL 3 (l.map Api.Program.c) := EL_map (fun x => by simp) l
structure Bytecode.word where
  text : (List UInt8)
  operands : Int
  deriving DecidableEq
@[simp] def Bytecode.word.c (x : Bytecode.word) : List AV := [.str x.text, .int .i64 x.operands]
@[simp] theorem okE_Bytecode_word (l : List Bytecode.word) : okElems 2 (l.map Bytecode.word.c) := okE_map (fun x => by simp) l
@[simp] theorem EL_Bytecode_word (l : List Bytecode.word) : EL 2 (l.map Bytecode.word.c) := EL_map (fun x => by simp) l
theorem rc_Bytecode_word : RowC Bytecode.word.c 2 := fun x => by simp [AV.inert, AV.flat]
@[simp] theorem rlen_Bytecode_word (l : List Bytecode.word) : (row Bytecode.word.c l).length = l.length * 2 := row_len rc_Bytecode_word l
@[simp] theorem rine_Bytecode_word (l : List Bytecode.word) : (row Bytecode.word.c l).all AV.inert = true := row_inert rc_Bytecode_word l
@[simp] theorem rund_Bytecode_word (m : Nat) (l : List Bytecode.word) : AV.underL m (row Bytecode.word.c l) = true := row_under rc_Bytecode_word m l
@[simp] theorem rfz_Bytecode_word (m : Nat) (blk : List AV) (l : List Bytecode.word) : AV.fzL m blk (row Bytecode.word.c l) = row Bytecode.word.c l := row_fz rc_Bytecode_word m blk l
@[simp] theorem rren_Bytecode_word (f : Nat → Nat) (l : List Bytecode.word) : AV.renL f (row Bytecode.word.c l) = row Bytecode.word.c l := row_ren rc_Bytecode_word f l
@[simp] theorem rok_Bytecode_word (m : Nat) (blk : List AV) (l : List Bytecode.word) : okFzL m blk (row Bytecode.word.c l) = true := row_okFz rc_Bytecode_word m blk l
@[simp] theorem rchk_Bytecode_word (l : List Bytecode.word) {k : Nat} (h : k = l.length) : chunk 2 k (row Bytecode.word.c l) = l.map Bytecode.word.c := by rw [h]; exact row_chunk rc_Bytecode_word l
@[simp] theorem rtk_Bytecode_word (l : List Bytecode.word) {k : Nat} (h : k = l.length) : (row Bytecode.word.c l).take (k * 2) = row Bytecode.word.c l := by rw [h]; exact row_take rc_Bytecode_word l
structure Ref48.States where
  Reached : (List Bool)
  Depths : (List Int)
  Set : (List (List Bool))
  deriving DecidableEq
@[simp] def Ref48.States.c (x : Ref48.States) : List AV := [.sl (x.Reached.map cB), .sl (x.Depths.map (cI .i64)), .sl (x.Set.map (cL cB))]
@[simp] theorem okE_Ref48_States (l : List Ref48.States) : okElems 3 (l.map Ref48.States.c) := okE_map (fun x => by simp) l
@[simp] theorem EL_Ref48_States (l : List Ref48.States) : EL 3 (l.map Ref48.States.c) := EL_map (fun x => by simp) l
end Go.Proofs.Ythbjlmoaceaeeaa
set_option linter.unusedVariables false
set_option linter.unusedSimpArgs false
set_option maxRecDepth 100000
set_option maxHeartbeats 1000000
namespace Go.Proofs.Ythbjlmoaceaeeaa
open Go Go.Abs
def M.law48_one (locals1 : Int) (depth2 : Int) (code3 : (List Api.Instr)) : Option (Api.Program) :=
  some (Api.Program.mk [(Api.Fun.mk 0 locals1 depth2 code3)] ([] : List (List UInt8)) 0)
def M.bytecode_within (n1 : Int) (low2 : Int) (high3 : Int) : Option (Bool) :=
  some ((leI low2 n1) && (leI n1 high3))
def M.bytecode_taken (n1 : Int) : Option (Int) :=
  if eqI n1 6 then
    some 1
  else if eqI n1 11 then
    some 1
  else if eqI n1 13 then
    some 1
  else if eqI n1 14 then
    some 1
  else
    some 2
def M.bytecode_Effect (i1 : Api.Instr) : Option (Int × Int × Int) :=
  if eqI i1.Op 1 then
    some (0, 1, 0)
  else if eqI i1.Op 2 then
    some (0, 1, 0)
  else if eqI i1.Op 3 then
    some (0, 1, 0)
  else if eqI i1.Op 5 then
    some (0, 1, 0)
  else if eqI i1.Op 6 then
    some (0, 1, 0)
  else if eqI i1.Op 4 then
    some (1, 0, 0)
  else if eqI i1.Op 9 then
    some (1, 0, 0)
  else if eqI i1.Op 13 then
    some (1, 0, 0)
  else if eqI i1.Op 7 then
    (M.bytecode_within i1.B 0 1000).bind fun v28 =>
    if !v28 then
      some (0, 0, 2)
    else
      some (i1.B, 1, 0)
  else if eqI i1.Op 10 then
    (M.bytecode_within i1.A 0 1000).bind fun v37 =>
    if !v37 then
      some (0, 0, 2)
    else
      some (i1.A, 1, 0)
  else if eqI i1.Op 8 then
    some (2, 1, 0)
  else if eqI i1.Op 11 then
    some (1, 1, 0)
  else if eqI i1.Op 12 then
    some (1, 1, 0)
  else if eqI i1.Op 14 then
    some (0, 0, 0)
  else if eqI i1.Op 16 then
    some (0, 0, 0)
  else if eqI i1.Op 15 then
    (M.bytecode_within i1.A 1 14).bind fun v61 =>
    if !v61 then
      some (0, 0, 2)
    else
      (M.bytecode_taken i1.A).bind fun v66 =>
      some (v66, 1, 0)
  else
    some (0, 0, 2)
def M.bytecode_known (op1 : Int) : Option (Bool) :=
  (M.bytecode_within op1 1 16).bind fun v2 =>
  some v2
def M.bytecode_Targets_1 (n1 : Int) (w2 : Api.Fun) : Option (Bool) :=
  (chk .i64 ((w2.Code.length : Int) - 1)).bind fun n3 =>
  (M.bytecode_within n1 0 n3).bind fun v8 =>
  some (!v8)
def M.slices_IndexFunc_int_Targets_1_l1 (s1 : (List Int)) (w2 : Api.Fun) : Nat → Nat → Option ((Int) ⊕ (Unit))
  | 0, _ => none
  | k8 + 1, i3 =>
    if ltI ((i3 : Nat) : Int) (s1.length : Int) then
      (s1[i3]?).bind fun x12 =>
      (M.bytecode_Targets_1 x12 w2).bind fun v14 =>
      if v14 then
        some (.inl ((i3 : Nat) : Int))
      else
        M.slices_IndexFunc_int_Targets_1_l1 s1 w2 k8 (i3 + 1)
    else
      some (.inr ())
def M.slices_IndexFunc_int_Targets_1 (fuel : Nat) (s1 : (List Int)) (w2 : Api.Fun) : Option (Int) :=
  (M.slices_IndexFunc_int_Targets_1_l1 s1 w2 fuel 0).bind fun o => Sum.elim some (fun o4 =>
    some (-1)) o
def M.slices_ContainsFunc_int_Targets_1 (fuel : Nat) (s1 : (List Int)) (w2 : Api.Fun) : Option (Bool) :=
  (M.slices_IndexFunc_int_Targets_1 fuel s1 w2).bind fun v3 =>
  some (leI 0 v3)
def M.bytecode_Targets_l1 (at2 : Int) (x20 : Api.Instr) : Nat → (List Int) → Int → Option ((List Int))
  | 0, _, _ => none
  | k50 + 1, out44, i45 =>
    if ltI i45 x20.B then
      (chk .i64 (at2 + 1)).bind fun n53 =>
      (chk .i64 (n53 + i45)).bind fun n58 =>
      (app 8 out44 [n58]).bind fun l63 =>
      (chk .i64 (i45 + 1)).bind fun n67 =>
      M.bytecode_Targets_l1 at2 x20 k50 l63 n67
    else
      some out44
def M.bytecode_Targets (fuel : Nat) (f1 : Api.Fun) (at2 : Int) : Option ((List Int) × Int) :=
  (if ltI at2 0 then
    some true
  else if leI (f1.Code.length : Int) at2 then
    some true
  else
    (idx f1.Code at2).bind fun x11 =>
    (M.bytecode_known x11.Op).bind fun v15 =>
    some (!v15) : Option Bool).bind fun b17 =>
  if b17 then
    some (([] : List Int), 2)
  else
    (idx f1.Code at2).bind fun x20 =>
    if eqI x20.Op 9 then
      some (([] : List Int), 0)
    else if eqI x20.Op 16 then
      some (([] : List Int), 0)
    else if eqI x20.Op 14 then
      (M.slices_ContainsFunc_int_Targets_1 fuel [x20.A] f1).bind fun v32 =>
      if v32 then
        some (([] : List Int), 24)
      else
        some ([x20.A], 0)
    else if eqI x20.Op 13 then
      (M.bytecode_within x20.B 1 1000).bind fun v39 =>
      if !v39 then
        some (([] : List Int), 24)
      else
        (M.bytecode_Targets_l1 at2 x20 fuel ([] : List Int) 0).bind fun o46 =>
        (M.slices_ContainsFunc_int_Targets_1 fuel o46 f1).bind fun v74 =>
        if v74 then
          some (([] : List Int), 24)
        else
          some (o46, 0)
    else
      (chk .i64 (at2 + 1)).bind fun n80 =>
      (M.slices_ContainsFunc_int_Targets_1 fuel [n80] f1).bind fun v85 =>
      if v85 then
        some (([] : List Int), 24)
      else
        some ([n80], 0)
def M.strings_Builder_copyCheck (b : List UInt8) : Option Unit := some ()
def M.strings_Builder_WriteByte (c1 : UInt8) (b2 : (List UInt8)) : Option ((List UInt8)) :=
  (M.strings_Builder_copyCheck b2).bind fun v3 =>
  (app 1 b2 [c1]).bind fun l5 =>
  some l5
def M.strings_Builder_WriteString (s1 : (List UInt8)) (b2 : (List UInt8)) : Option (Int × (List UInt8)) :=
  (M.strings_Builder_copyCheck b2).bind fun v3 =>
  (app 1 b2 s1).bind fun l5 =>
  some ((s1.length : Int), l5)
def M.lexer_visible (c1 : UInt8) : Option (Bool) :=
  some ((leI 32 (c1.toNat : Int)) && (leI (c1.toNat : Int) 126))
def M.strings_Builder_String (b : List UInt8) : Option (List UInt8) := some b
def M.lexer_Quote_l1 (s1 : (List UInt8)) : Nat → (List UInt8) → Nat → Option (((List UInt8) × Int) ⊕ ((List UInt8)))
  | 0, _, _ => none
  | k15 + 1, buf9, i10 =>
    if ltI ((i10 : Nat) : Int) (s1.length : Int) then
      (s1[i10]?).bind fun c18 =>
      if eqI (c18.toNat : Int) 10 then
        (M.strings_Builder_WriteString [92, 110] buf9).bind fun v22 =>
        M.lexer_Quote_l1 s1 k15 v22.2 (i10 + 1)
      else
        (M.lexer_visible c18).bind fun v27 =>
        if !v27 then
          some (.inl (([] : List UInt8), 3))
        else if (eqI (c18.toNat : Int) 34) || (eqI (c18.toNat : Int) 92) then
          (M.strings_Builder_WriteByte (92 : UInt8) buf9).bind fun v36 =>
          (M.strings_Builder_WriteByte c18 v36).bind fun v38 =>
          M.lexer_Quote_l1 s1 k15 v38 (i10 + 1)
        else
          (M.strings_Builder_WriteByte c18 buf9).bind fun v47 =>
          M.lexer_Quote_l1 s1 k15 v47 (i10 + 1)
    else
      some (.inr buf9)
def M.lexer_Quote (fuel : Nat) (s1 : (List UInt8)) : Option ((List UInt8) × Int) :=
  if ltI 16384 (s1.length : Int) then
    some (([] : List UInt8), 5)
  else
    (M.strings_Builder_WriteByte (34 : UInt8) ([] : List UInt8)).bind fun v7 =>
    (M.lexer_Quote_l1 s1 fuel v7 0).bind fun o => Sum.elim some (fun o11 =>
      (M.strings_Builder_WriteByte (34 : UInt8) o11).bind fun v54 =>
      (M.strings_Builder_String v54).bind fun v56 =>
      some (v56, 0)) o
def M.bytecode_quoted (fuel : Nat) (s1 : (List UInt8)) : Option (Bool) :=
  (M.lexer_Quote fuel s1).bind fun v2 =>
  some (eqI v2.2 0)
def M.bytecode_Valid_1 (fuel : Nat) (s1 : (List UInt8)) : Option (Bool) :=
  (M.bytecode_quoted fuel s1).bind fun v2 =>
  some (!v2)
def M.slices_IndexFunc_string_Valid_1_l1 (fuel : Nat) (s1 : (List (List UInt8))) : Nat → Nat → Option ((Int) ⊕ (Unit))
  | 0, _ => none
  | k7 + 1, i2 =>
    if ltI ((i2 : Nat) : Int) (s1.length : Int) then
      (s1[i2]?).bind fun x11 =>
      (M.bytecode_Valid_1 fuel x11).bind fun v13 =>
      if v13 then
        some (.inl ((i2 : Nat) : Int))
      else
        M.slices_IndexFunc_string_Valid_1_l1 fuel s1 k7 (i2 + 1)
    else
      some (.inr ())
def M.slices_IndexFunc_string_Valid_1 (fuel : Nat) (s1 : (List (List UInt8))) : Option (Int) :=
  (M.slices_IndexFunc_string_Valid_1_l1 fuel s1 fuel 0).bind fun o => Sum.elim some (fun o3 =>
    some (-1)) o
def M.slices_ContainsFunc_string_Valid_1 (fuel : Nat) (s1 : (List (List UInt8))) : Option (Bool) :=
  (M.slices_IndexFunc_string_Valid_1 fuel s1).bind fun v2 =>
  some (leI 0 v2)
def M.bytecode_words : Option (Unit) :=
  some ()
def M.bytecode_right_1 (x1 : Api.Instr) : Option (Bool) :=
  some (!(eqI x1.Op 14))
def M.slices_IndexFunc_api_Instr_right_1_l1 (s1 : (List Api.Instr)) : Nat → Nat → Option ((Int) ⊕ (Unit))
  | 0, _ => none
  | k7 + 1, i2 =>
    if ltI ((i2 : Nat) : Int) (s1.length : Int) then
      (s1[i2]?).bind fun x11 =>
      (M.bytecode_right_1 x11).bind fun v13 =>
      if v13 then
        some (.inl ((i2 : Nat) : Int))
      else
        M.slices_IndexFunc_api_Instr_right_1_l1 s1 k7 (i2 + 1)
    else
      some (.inr ())
def M.slices_IndexFunc_api_Instr_right_1 (fuel : Nat) (s1 : (List Api.Instr)) : Option (Int) :=
  (M.slices_IndexFunc_api_Instr_right_1_l1 s1 fuel 0).bind fun o => Sum.elim some (fun o3 =>
    some (-1)) o
def M.slices_ContainsFunc_api_Instr_right_1 (fuel : Nat) (s1 : (List Api.Instr)) : Option (Bool) :=
  (M.slices_IndexFunc_api_Instr_right_1 fuel s1).bind fun v2 =>
  some (leI 0 v2)
def M.bytecode_right (fuel : Nat) (p1 : Api.Program) (f2 : Api.Fun) (at3 : Int) : Option (Bool) :=
  (idx f2.Code at3).bind fun x4 =>
  (M.bytecode_known x4.Op).bind fun v8 =>
  if !v8 then
    some false
  else
    (M.bytecode_words).bind fun v13 =>
    (idx [(Bytecode.word.mk ([] : List UInt8) 0), (Bytecode.word.mk [105, 110, 116] 1), (Bytecode.word.mk [116, 101, 120, 116] 1), (Bytecode.word.mk [108, 111, 99, 97, 108] 1), (Bytecode.word.mk [115, 116, 111, 114, 101] 1), (Bytecode.word.mk [99, 97, 112, 116, 117, 114, 101] 1), (Bytecode.word.mk [115, 101, 108, 102] 0), (Bytecode.word.mk [99, 108, 111, 115, 117, 114, 101] 2), (Bytecode.word.mk [99, 97, 108, 108] 0), (Bytecode.word.mk [114, 101, 116, 117, 114, 110] 0), (Bytecode.word.mk [98, 108, 111, 99, 107] 1), (Bytecode.word.mk [102, 105, 101, 108, 100] 1), (Bytecode.word.mk [116, 97, 103] 1), (Bytecode.word.mk [115, 119, 105, 116, 99, 104] 2), (Bytecode.word.mk [106, 117, 109, 112] 1), (Bytecode.word.mk [112, 114, 105, 109] 1), (Bytecode.word.mk [102, 97, 105, 108] 1)] x4.Op).bind fun x17 =>
    if if ltI x17.operands 1 then (!(eqI x4.A 0)) || ((ltI x17.operands 2) && (!(eqI x4.B 0))) else (ltI x17.operands 2) && (!(eqI x4.B 0)) then
      some false
    else if eqI x4.Op 1 then
      (M.bytecode_within x4.A (-4503599627370496) 4503599627370496).bind fun v38 =>
      some v38
    else if eqI x4.Op 2 then
      (chk .i64 ((p1.Texts.length : Int) - 1)).bind fun n44 =>
      (M.bytecode_within x4.A 0 n44).bind fun v49 =>
      some v49
    else if eqI x4.Op 3 then
      (chk .i64 (f2.Locals - 1)).bind fun n55 =>
      (M.bytecode_within x4.A 0 n55).bind fun v60 =>
      some v60
    else if eqI x4.Op 4 then
      (chk .i64 (f2.Locals - 1)).bind fun n66 =>
      (M.bytecode_within x4.A 0 n66).bind fun v71 =>
      some v71
    else if eqI x4.Op 5 then
      (chk .i64 (f2.Captures - 1)).bind fun n77 =>
      (M.bytecode_within x4.A 0 n77).bind fun v82 =>
      some v82
    else if eqI x4.Op 7 then
      ((chk .i64 ((p1.Funs.length : Int) - 1)).bind fun n88 =>
      (M.bytecode_within x4.A 0 n88).bind fun v93 =>
      if v93 then
        (idx p1.Funs x4.A).bind fun x96 =>
        some (eqI x4.B x96.Captures)
      else
        some false : Option Bool).bind fun b100 =>
      some b100
    else if eqI x4.Op 10 then
      (M.bytecode_within x4.A 0 1000).bind fun v107 =>
      some v107
    else if eqI x4.Op 11 then
      (M.bytecode_within x4.A 0 999).bind fun v113 =>
      some v113
    else if eqI x4.Op 12 then
      (M.bytecode_within x4.A 0 999).bind fun v119 =>
      some v119
    else if eqI x4.Op 13 then
      ((chk .i64 (f2.Locals - 1)).bind fun n125 =>
      (M.bytecode_within x4.A 0 n125).bind fun v130 =>
      if !v130 then
        some true
      else
        (M.bytecode_within x4.B 1 1000).bind fun v135 =>
        if !v135 then
          some true
        else
          (chk .i64 (at3 + x4.B)).bind fun n140 =>
          some (leI (f2.Code.length : Int) n140) : Option Bool).bind fun b145 =>
      if b145 then
        some false
      else
        (chk .i64 (at3 + 1)).bind fun n148 =>
        (chk .i64 (n148 + x4.B)).bind fun n154 =>
        (subC f2.Code n148 n154).bind fun l159 =>
        (M.slices_ContainsFunc_api_Instr_right_1 fuel l159).bind fun v163 =>
        some (!v163)
    else if eqI x4.Op 14 then
      (chk .i64 ((f2.Code.length : Int) - 1)).bind fun n174 =>
      (M.bytecode_within x4.A 0 n174).bind fun v179 =>
      some v179
    else if eqI x4.Op 15 then
      (M.bytecode_within x4.A 1 14).bind fun v185 =>
      some v185
    else if eqI x4.Op 16 then
      (M.bytecode_within x4.A 1 1000000).bind fun v191 =>
      some v191
    else
      some true
def M.bytecode_Valid_l3 (fuel : Nat) (p1 : Api.Program) (x71 : Api.Fun) : Nat → Nat → Option ((Bool) ⊕ (Unit))
  | 0, _ => none
  | k78 + 1, i73 =>
    if ltI ((i73 : Nat) : Int) (x71.Code.length : Int) then
      (M.bytecode_right fuel p1 x71 ((i73 : Nat) : Int)).bind fun v82 =>
      if !v82 then
        some (.inl false)
      else
        M.bytecode_Valid_l3 fuel p1 x71 k78 (i73 + 1)
    else
      some (.inr ())
def M.bytecode_Valid_l2 (fuel : Nat) (p1 : Api.Program) : Nat → Nat → Option ((Bool) ⊕ (Unit))
  | 0, _ => none
  | k67 + 1, i62 =>
    if ltI ((i62 : Nat) : Int) (p1.Funs.length : Int) then
      (p1.Funs[i62]?).bind fun x71 =>
      (M.bytecode_Valid_l3 fuel p1 x71 fuel 0).bind fun o => Sum.elim (fun r => some (.inl r)) (fun o74 =>
        M.bytecode_Valid_l2 fuel p1 k67 (i62 + 1)) o
    else
      some (.inr ())
def M.bytecode_Valid_l1 (p1 : Api.Program) : Nat → Nat → Option ((Bool) ⊕ (Unit))
  | 0, _ => none
  | k22 + 1, i17 =>
    if ltI ((i17 : Nat) : Int) (p1.Funs.length : Int) then
      (p1.Funs[i17]?).bind fun x26 =>
      ((M.bytecode_within x26.Captures 0 1000).bind fun v28 =>
      if !v28 then
        some true
      else
        (M.bytecode_within x26.Locals 1 4096).bind fun v33 =>
        if !v33 then
          some true
        else
          (M.bytecode_within x26.Depth 0 4096).bind fun v38 =>
          if !v38 then
            some true
          else
            (M.bytecode_within (x26.Code.length : Int) 1 16384).bind fun v43 =>
            some (!v43) : Option Bool).bind fun b45 =>
      if b45 then
        some (.inl false)
      else
        M.bytecode_Valid_l1 p1 k22 (i17 + 1)
    else
      some (.inr ())
def M.bytecode_Valid (fuel : Nat) (p1 : Api.Program) : Option (Bool) :=
  ((M.bytecode_within (p1.Funs.length : Int) 1 4096).bind fun v2 =>
  if !v2 then
    some true
  else if ltI 1000 (p1.Texts.length : Int) then
    some true
  else
    (M.slices_ContainsFunc_string_Valid_1 fuel p1.Texts).bind fun v12 =>
    some v12 : Option Bool).bind fun b14 =>
  if b14 then
    some false
  else
    (M.bytecode_Valid_l1 p1 fuel 0).bind fun o => Sum.elim some (fun o18 =>
      (M.bytecode_Valid_l2 fuel p1 fuel 0).bind fun o => Sum.elim some (fun o63 =>
        ((chk .i64 ((p1.Funs.length : Int) - 1)).bind fun n96 =>
        (M.bytecode_within p1.Main 0 n96).bind fun v101 =>
        if v101 then
          (idx p1.Funs p1.Main).bind fun x104 =>
          some (eqI x104.Captures 0)
        else
          some false : Option Bool).bind fun b108 =>
        some b108) o) o
inductive M.Blk where
  | r (l : List Bool)
  | i (x : Api.Instr)
structure M.VS where
  f : Api.Fun
  D : List Int
  S : List (Option Nat)
  R : List M.Blk
  Q : List Int
def M.VS.add (st : M.VS) (b : M.Blk) : M.VS := ⟨st.f, st.D, st.S, st.R ++ [b], st.Q⟩
def M.rowOf (R : List M.Blk) (k : Nat) : Option (List Bool) := match R[k]? with
  | some (.r l) => some l
  | _ => none
def M.verify_meet_l (set k : Nat) : Nat → Nat → List M.Blk → Bool → Option (List M.Blk × Bool)
  | 0, _, R, ch => some (R, ch)
  | n + 1, i, R, ch =>
    (M.rowOf R k).bind fun r => (r[i]?).bind fun x =>
    if x then
      (M.rowOf R set).bind fun s => (s[i]?).bind fun y =>
      if !y then M.verify_meet_l set k n (i + 1) (R.set k (.r (r.set i false))) true
      else M.verify_meet_l set k n (i + 1) R ch
    else M.verify_meet_l set k n (i + 1) R ch
def M.verify_meet (L : Nat) (st : M.VS) (at1 depth : Int) (set : Nat) : Option (Bool × M.VS) :=
  (ixC st.D at1).bind fun _ => (st.D[at1.toNat]?).bind fun d =>
  if ltI d 0 then
    (ixC st.S at1).bind fun _ => (M.rowOf st.R set).bind fun l => (clC 1 l).bind fun l1 => (lenN l1 L).bind fun _ =>
    (app 8 st.Q [at1]).bind fun q =>
    some (true, ⟨st.f, st.D.set at1.toNat depth, st.S.set at1.toNat (some st.R.length), st.R ++ [.r l1], q⟩)
  else if !(eqI d depth) then some (false, st)
  else
    (ixC st.S at1).bind fun _ => (st.S[at1.toNat]?).bind fun o => o.bind fun k =>
    (M.verify_meet_l set k L 0 st.R false).bind fun p =>
    if p.2 then (app 8 st.Q [at1]).bind fun q => some (true, ⟨st.f, st.D, st.S, p.1, q⟩)
    else some (true, ⟨st.f, st.D, st.S, p.1, st.Q⟩)
def M.verify_visit_l (L : Nat) (after : Int) (set : Nat) : List Int → M.VS → Option (Bool × M.VS)
  | [], st => some (true, st)
  | t :: ts, st => (M.verify_meet L st t after set).bind fun p => if !p.1 then some (false, p.2) else M.verify_visit_l L after set ts p.2
def M.verify_visit (fuel L : Nat) (st : M.VS) (at1 : Int) : Option (Bool × M.VS) :=
  (idx st.f.Code at1).bind fun i => (ixC st.D at1).bind fun _ => (st.D[at1.toNat]?).bind fun d =>
  (M.bytecode_Effect i).bind fun e =>
  if (!(eqI e.2.2 0)) || ((ltI d e.1) || ((eqI i.Op 9) && (!(eqI d 1)))) then some (false, st.add (.i i))
  else
    (chk .i64 (d - e.1)).bind fun n1 => (chk .i64 (n1 + e.2.1)).bind fun after =>
    (if ltI st.f.Depth after then some true
    else if eqI i.Op 3 then (ixC st.S at1).bind fun _ => (st.S[at1.toNat]?).bind fun o => o.bind fun k => (ltC i.A L).bind fun _ => (M.rowOf st.R k).bind fun r => (r[i.A.toNat]?).bind fun x => some (!x)
    else some false : Option Bool).bind fun b =>
    if b then some (false, st.add (.i i))
    else
      (M.bytecode_Targets fuel st.f at1).bind fun t =>
      if !(eqI t.2 0) then some (false, st.add (.i i))
      else
        (ixC st.S at1).bind fun _ => (st.S[at1.toNat]?).bind fun o => o.bind fun k =>
        if (eqI i.Op 4) || (eqI i.Op 13) then
          (M.rowOf st.R k).bind fun r => (clC 1 r).bind fun r1 => (lenN r1 L).bind fun _ => (ixC r1 i.A).bind fun _ =>
          M.verify_visit_l L after (st.R.length + 1) t.1 ((st.add (.i i)).add (.r (r1.set i.A.toNat true)))
        else M.verify_visit_l L after k t.1 (st.add (.i i))
def M.verify_analyze_l (fuel L : Nat) : Nat → M.VS → Option (Bool × M.VS)
  | 0, _ => none
  | n + 1, st => match st.Q with
    | [] => some (true, st)
    | q :: qs => (M.verify_visit fuel L ⟨st.f, st.D, st.S, st.R, qs⟩ q).bind fun p => if !p.1 then some (false, p.2) else M.verify_analyze_l fuel L n p.2
def M.verify_analyze (fuel : Nat) (f : Api.Fun) : Option (Bool × M.VS) :=
  (mkL 8 (f.Code.length : Int) (0 : Int)).bind fun d0 => (mkL 24 (f.Code.length : Int) (none : Option Nat)).bind fun s0 =>
  (mkL 1 f.Locals false).bind fun first => (ixC first 0).bind fun _ =>
  (M.verify_meet f.Locals.toNat ⟨f, List.replicate f.Code.length (-1), s0, [.r (first.set 0 true)], []⟩ 0 0 0).bind fun p =>
  if !p.1 then some (false, p.2) else M.verify_analyze_l fuel f.Locals.toNat fuel p.2
def M.rowsOf (L : Nat) (R : List M.Blk) : List (Option Nat) → Option (List (List Bool))
  | [] => some []
  | none :: l => (M.rowsOf L R l).bind fun m => some ([] :: m)
  | some k :: l => (M.rowOf R k).bind fun r => (lenN r L).bind fun _ => (M.rowsOf L R l).bind fun m => some (r :: m)
def M.verify_function (fuel : Nat) (p : Api.Program) (n : Int) : Option (Int ⊕ M.VS) :=
  (M.bytecode_Valid fuel p).bind fun v =>
  if !v then some (.inl 1)
  else if (ltI n 0) || (leI (p.Funs.length : Int) n) then some (.inl 2)
  else (idx p.Funs n).bind fun f => (M.verify_analyze fuel f).bind fun o =>
    if !o.1 then some (.inl 24)
    else some (.inr o.2)
def M.verify_Depths (fuel : Nat) (p : Api.Program) (n : Int) : Option (List Int × Int) :=
  (M.verify_function fuel p n).bind fun r => some (match r with
    | .inl e => ([], e)
    | .inr q => (q.D, 0))
def M.verify_Check_l (fuel : Nat) : List Api.Fun → Option Int
  | [] => some 0
  | f :: l => (M.verify_analyze fuel f).bind fun o => if !o.1 then some 24 else M.verify_Check_l fuel l
def M.verify_Check (fuel : Nat) (p : Api.Program) : Option Int :=
  (M.bytecode_Valid fuel p).bind fun v => if !v then some 1 else M.verify_Check_l fuel p.Funs
def M.slices_Equal_int_l1 (s11 : (List Int)) (s22 : (List Int)) : Nat → Nat → Option ((Bool) ⊕ (Unit))
  | 0, _ => none
  | k13 + 1, i8 =>
    if ltI ((i8 : Nat) : Int) (s11.length : Int) then
      (s11[i8]?).bind fun x17 =>
      (s22[i8]?).bind fun x19 =>
      if !(eqI x17 x19) then
        some (.inl false)
      else
        M.slices_Equal_int_l1 s11 s22 k13 (i8 + 1)
    else
      some (.inr ())
def M.slices_Equal_int (fuel : Nat) (s11 : (List Int)) (s22 : (List Int)) : Option (Bool) :=
  if !(eqI (s11.length : Int) (s22.length : Int)) then
    some false
  else
    (M.slices_Equal_int_l1 s11 s22 fuel 0).bind fun o => Sum.elim some (fun o9 =>
      some true) o
def M.law48_awake (fuel : Nat) : Option (Bool) :=
  (M.law48_one 1 1 [(Api.Instr.mk 1 7 0), (Api.Instr.mk 9 0 0)]).bind fun v1 =>
  (M.verify_Depths fuel v1 0).bind fun v3 =>
  ((M.verify_Check fuel v1).bind fun v5 =>
  if eqI v5 0 then
    if eqI v3.2 0 then
      (some [0, 1]).bind fun l11 =>
      (M.slices_Equal_int fuel v3.1 l11).bind fun v15 =>
      if v15 then
        (M.law48_one 1 1 [(Api.Instr.mk 1 7 0), (Api.Instr.mk 15 1 0)]).bind fun v18 =>
        (M.verify_Check fuel v18).bind fun v20 =>
        if eqI v20 24 then
          (M.law48_one 2 1 [(Api.Instr.mk 3 1 0), (Api.Instr.mk 9 0 0)]).bind fun v24 =>
          (M.verify_Check fuel v24).bind fun v26 =>
          some (eqI v26 24)
        else
          some false
      else
        some false
    else
      some false
  else
    some false : Option Bool).bind fun b31 =>
  some b31
def M.law48_big_1 (s1 : (List UInt8)) : Option (Bool) :=
  some (ltI 1000 (s1.length : Int))
def M.slices_IndexFunc_string_big_1_l1 (s1 : (List (List UInt8))) : Nat → Nat → Option ((Int) ⊕ (Unit))
  | 0, _ => none
  | k7 + 1, i2 =>
    if ltI ((i2 : Nat) : Int) (s1.length : Int) then
      (s1[i2]?).bind fun x11 =>
      (M.law48_big_1 x11).bind fun v13 =>
      if v13 then
        some (.inl ((i2 : Nat) : Int))
      else
        M.slices_IndexFunc_string_big_1_l1 s1 k7 (i2 + 1)
    else
      some (.inr ())
def M.slices_IndexFunc_string_big_1 (fuel : Nat) (s1 : (List (List UInt8))) : Option (Int) :=
  (M.slices_IndexFunc_string_big_1_l1 s1 fuel 0).bind fun o => Sum.elim some (fun o3 =>
    some (-1)) o
def M.slices_ContainsFunc_string_big_1 (fuel : Nat) (s1 : (List (List UInt8))) : Option (Bool) :=
  (M.slices_IndexFunc_string_big_1 fuel s1).bind fun v2 =>
  some (leI 0 v2)
def M.law48_big_2 (f1 : Api.Fun) : Option (Bool) :=
  some ((ltI 200 (f1.Code.length : Int)) || ((ltI 60 f1.Locals) && (leI f1.Locals 4096)))
def M.slices_IndexFunc_api_Fun_big_2_l1 (s1 : (List Api.Fun)) : Nat → Nat → Option ((Int) ⊕ (Unit))
  | 0, _ => none
  | k7 + 1, i2 =>
    if ltI ((i2 : Nat) : Int) (s1.length : Int) then
      (s1[i2]?).bind fun x11 =>
      (M.law48_big_2 x11).bind fun v13 =>
      if v13 then
        some (.inl ((i2 : Nat) : Int))
      else
        M.slices_IndexFunc_api_Fun_big_2_l1 s1 k7 (i2 + 1)
    else
      some (.inr ())
def M.slices_IndexFunc_api_Fun_big_2 (fuel : Nat) (s1 : (List Api.Fun)) : Option (Int) :=
  (M.slices_IndexFunc_api_Fun_big_2_l1 s1 fuel 0).bind fun o => Sum.elim some (fun o3 =>
    some (-1)) o
def M.slices_ContainsFunc_api_Fun_big_2 (fuel : Nat) (s1 : (List Api.Fun)) : Option (Bool) :=
  (M.slices_IndexFunc_api_Fun_big_2 fuel s1).bind fun v2 =>
  some (leI 0 v2)
def M.law48_big (fuel : Nat) (p1 : Api.Program) : Option (Bool) :=
  (if ltI 10 (p1.Funs.length : Int) then
    some true
  else if ltI 50 (p1.Texts.length : Int) then
    some true
  else
    (M.slices_ContainsFunc_string_big_1 fuel p1.Texts).bind fun v12 =>
    if v12 then
      some true
    else
      (M.slices_ContainsFunc_api_Fun_big_2 fuel p1.Funs).bind fun v15 =>
      some v15 : Option Bool).bind fun b17 =>
  some b17
def M.ref46_in (n1 : Int) (low2 : Int) (high3 : Int) : Option (Bool) :=
  some ((leI low2 n1) && (leI n1 high3))
def M.ref02_Plain_l1 (s1 : (List UInt8)) : Nat → Nat → Option ((Bool) ⊕ (Unit))
  | 0, _ => none
  | k7 + 1, i2 =>
    if ltI ((i2 : Nat) : Int) (s1.length : Int) then
      ((s1[i2]?).bind fun c11 =>
      if ltI (c11.toNat : Int) 32 then
        some (!(eqI (c11.toNat : Int) 10))
      else if ltI 126 (c11.toNat : Int) then
        some (!(eqI (c11.toNat : Int) 10))
      else
        some false : Option Bool).bind fun b19 =>
      if b19 then
        some (.inl false)
      else
        M.ref02_Plain_l1 s1 k7 (i2 + 1)
    else
      some (.inr ())
def M.ref02_Plain (fuel : Nat) (s1 : (List UInt8)) : Option (Bool) :=
  (M.ref02_Plain_l1 s1 fuel 0).bind fun o => Sum.elim some (fun o3 =>
    some true) o
def M.ref46_textual (fuel : Nat) (s1 : (List UInt8)) : Option (Bool) :=
  (if leI (s1.length : Int) 16384 then
    (M.ref02_Plain fuel s1).bind fun v5 =>
    some v5
  else
    some false : Option Bool).bind fun b9 =>
  some b9
def M.ref46_Word (op1 : Int) : Option ((List UInt8)) :=
  (some [([] : List UInt8), [105, 110, 116], [116, 101, 120, 116], [108, 111, 99, 97, 108], [115, 116, 111, 114, 101], [99, 97, 112, 116, 117, 114, 101], [115, 101, 108, 102], [99, 108, 111, 115, 117, 114, 101], [99, 97, 108, 108], [114, 101, 116, 117, 114, 110], [98, 108, 111, 99, 107], [102, 105, 101, 108, 100], [116, 97, 103], [115, 119, 105, 116, 99, 104], [106, 117, 109, 112], [112, 114, 105, 109], [102, 97, 105, 108]]).bind fun l2 =>
  if (ltI op1 1) || (leI (l2.length : Int) op1) then
    some ([] : List UInt8)
  else
    (idx l2 op1).bind fun x15 =>
    some x15
def M.ref46_Operands (op1 : Int) : Option (Int) :=
  if eqI op1 6 then
    some 0
  else if eqI op1 8 then
    some 0
  else if eqI op1 9 then
    some 0
  else if eqI op1 7 then
    some 2
  else if eqI op1 13 then
    some 2
  else
    some 1
def M.ref46_Arity (n1 : Int) : Option (Int) :=
  if eqI n1 6 then
    some 1
  else if eqI n1 11 then
    some 1
  else if eqI n1 13 then
    some 1
  else if eqI n1 14 then
    some 1
  else if (ltI n1 1) || (ltI 14 n1) then
    some 0
  else
    some 2
def M.ref46_right_l1 (f2 : Api.Fun) (at3 : Int) (x4 : Api.Instr) : Nat → Int → Option ((Bool) ⊕ (Unit))
  | 0, _ => none
  | k175 + 1, k169 =>
    if leI k169 x4.B then
      (chk .i64 (at3 + k169)).bind fun n178 =>
      (idx f2.Code n178).bind fun x183 =>
      if !(eqI x183.Op 14) then
        some (.inl false)
      else
        (chk .i64 (k169 + 1)).bind fun n192 =>
        M.ref46_right_l1 f2 at3 x4 k175 n192
    else
      some (.inr ())
def M.ref46_right (fuel : Nat) (p1 : Api.Program) (f2 : Api.Fun) (at3 : Int) : Option (Bool) :=
  (idx f2.Code at3).bind fun x4 =>
  ((M.ref46_Word x4.Op).bind fun v8 =>
  if eqS v8 ([] : List UInt8) then
    some true
  else
    (M.ref46_Operands x4.Op).bind fun v11 =>
    if ltI v11 2 then
      if !(eqI x4.B 0) then
        some true
      else
        (M.ref46_Operands x4.Op).bind fun v20 =>
        if ltI v20 1 then
          some (!(eqI x4.A 0))
        else
          some false
    else
      (M.ref46_Operands x4.Op).bind fun v26 =>
      if ltI v26 1 then
        some (!(eqI x4.A 0))
      else
        some false : Option Bool).bind fun b31 =>
  if b31 then
    some false
  else if eqI x4.Op 1 then
    (M.ref46_in x4.A (-4503599627370496) 4503599627370496).bind fun v36 =>
    some v36
  else if eqI x4.Op 2 then
    (chk .i64 ((p1.Texts.length : Int) - 1)).bind fun n42 =>
    (M.ref46_in x4.A 0 n42).bind fun v47 =>
    some v47
  else if eqI x4.Op 3 then
    (chk .i64 (f2.Locals - 1)).bind fun n53 =>
    (M.ref46_in x4.A 0 n53).bind fun v58 =>
    some v58
  else if eqI x4.Op 4 then
    (chk .i64 (f2.Locals - 1)).bind fun n64 =>
    (M.ref46_in x4.A 0 n64).bind fun v69 =>
    some v69
  else if eqI x4.Op 5 then
    (chk .i64 (f2.Captures - 1)).bind fun n75 =>
    (M.ref46_in x4.A 0 n75).bind fun v80 =>
    some v80
  else if eqI x4.Op 7 then
    ((chk .i64 ((p1.Funs.length : Int) - 1)).bind fun n86 =>
    (M.ref46_in x4.A 0 n86).bind fun v91 =>
    if v91 then
      (idx p1.Funs x4.A).bind fun x94 =>
      some (eqI x4.B x94.Captures)
    else
      some false : Option Bool).bind fun b98 =>
    some b98
  else if eqI x4.Op 10 then
    (M.ref46_in x4.A 0 1000).bind fun v105 =>
    some v105
  else if eqI x4.Op 11 then
    (M.ref46_in x4.A 0 999).bind fun v111 =>
    some v111
  else if eqI x4.Op 12 then
    (M.ref46_in x4.A 0 999).bind fun v117 =>
    some v117
  else if eqI x4.Op 14 then
    (chk .i64 ((f2.Code.length : Int) - 1)).bind fun n123 =>
    (M.ref46_in x4.A 0 n123).bind fun v128 =>
    some v128
  else if eqI x4.Op 15 then
    (M.ref46_Arity x4.A).bind fun v134 =>
    some (ltI 0 v134)
  else if eqI x4.Op 16 then
    (M.ref46_in x4.A 1 1000000).bind fun v140 =>
    some v140
  else if eqI x4.Op 13 then
    ((chk .i64 (f2.Locals - 1)).bind fun n146 =>
    (M.ref46_in x4.A 0 n146).bind fun v151 =>
    if !v151 then
      some true
    else
      (M.ref46_in x4.B 1 1000).bind fun v156 =>
      if !v156 then
        some true
      else
        (chk .i64 (at3 + x4.B)).bind fun n161 =>
        some (leI (f2.Code.length : Int) n161) : Option Bool).bind fun b166 =>
    if b166 then
      some false
    else
      (M.ref46_right_l1 f2 at3 x4 fuel 1).bind fun o => Sum.elim some (fun o170 =>
        some true) o
  else
    some true
def M.ref46_Valid_l3 (fuel : Nat) (p1 : Api.Program) (x59 : Api.Fun) : Nat → Nat → Option ((Bool) ⊕ (Unit))
  | 0, _ => none
  | k86 + 1, k81 =>
    if ltI ((k81 : Nat) : Int) (x59.Code.length : Int) then
      (M.ref46_right fuel p1 x59 ((k81 : Nat) : Int)).bind fun v90 =>
      if !v90 then
        some (.inl false)
      else
        M.ref46_Valid_l3 fuel p1 x59 k86 (k81 + 1)
    else
      some (.inr ())
def M.ref46_Valid_l2 (fuel : Nat) (p1 : Api.Program) : Nat → Nat → Option ((Bool) ⊕ (Unit))
  | 0, _ => none
  | k55 + 1, i50 =>
    if ltI ((i50 : Nat) : Int) (p1.Funs.length : Int) then
      (p1.Funs[i50]?).bind fun x59 =>
      ((M.ref46_in x59.Captures 0 1000).bind fun v61 =>
      if !v61 then
        some true
      else
        (M.ref46_in x59.Locals 1 4096).bind fun v66 =>
        if !v66 then
          some true
        else
          (M.ref46_in x59.Depth 0 4096).bind fun v71 =>
          if !v71 then
            some true
          else
            (M.ref46_in (x59.Code.length : Int) 1 16384).bind fun v76 =>
            some (!v76) : Option Bool).bind fun b78 =>
      if b78 then
        some (.inl false)
      else
        (M.ref46_Valid_l3 fuel p1 x59 fuel 0).bind fun o => Sum.elim (fun r => some (.inl r)) (fun o82 =>
          M.ref46_Valid_l2 fuel p1 k55 (i50 + 1)) o
    else
      some (.inr ())
def M.ref46_Valid_l1 (fuel : Nat) (p1 : Api.Program) : Nat → Nat → Option ((Bool) ⊕ (Unit))
  | 0, _ => none
  | k34 + 1, i29 =>
    if ltI ((i29 : Nat) : Int) (p1.Texts.length : Int) then
      (p1.Texts[i29]?).bind fun x38 =>
      (M.ref46_textual fuel x38).bind fun v40 =>
      if !v40 then
        some (.inl false)
      else
        M.ref46_Valid_l1 fuel p1 k34 (i29 + 1)
    else
      some (.inr ())
def M.ref46_Valid (fuel : Nat) (p1 : Api.Program) : Option (Bool) :=
  ((M.ref46_in (p1.Funs.length : Int) 1 4096).bind fun v2 =>
  if !v2 then
    some true
  else if ltI 1000 (p1.Texts.length : Int) then
    some true
  else
    (chk .i64 ((p1.Funs.length : Int) - 1)).bind fun n12 =>
    (M.ref46_in p1.Main 0 n12).bind fun v17 =>
    if !v17 then
      some true
    else
      (idx p1.Funs p1.Main).bind fun x22 =>
      some (!(eqI x22.Captures 0)) : Option Bool).bind fun b26 =>
  if b26 then
    some false
  else
    (M.ref46_Valid_l1 fuel p1 fuel 0).bind fun o => Sum.elim some (fun o30 =>
      (M.ref46_Valid_l2 fuel p1 fuel 0).bind fun o => Sum.elim some (fun o51 =>
        some true) o) o
def M.ref48_both_l1 (a1 : (List Bool)) (b2 : (List Bool)) : Nat → (List Bool) → Nat → Option ((List Bool))
  | 0, _, _ => none
  | k14 + 1, l9, i10 =>
    if ltI ((i10 : Nat) : Int) (a1.length : Int) then
      ((a1[i10]?).bind fun x18 =>
      if x18 then
        (b2[i10]?).bind fun x21 =>
        (ixC l9 ((i10 : Nat) : Int)).bind fun u23 =>
        some (l9.set i10 x21)
      else
        (ixC l9 ((i10 : Nat) : Int)).bind fun u27 =>
        some (l9.set i10 false) : Option (List Bool)).bind fun v31 =>
      M.ref48_both_l1 a1 b2 k14 v31 (i10 + 1)
    else
      some l9
def M.ref48_both (fuel : Nat) (a1 : (List Bool)) (b2 : (List Bool)) : Option ((List Bool)) :=
  (mkL 1 (a1.length : Int) false).bind fun l3 =>
  (M.ref48_both_l1 a1 b2 fuel l3 0).bind fun o11 =>
  some o11
def M.ref48_same_l1 (a1 : (List Bool)) (b2 : (List Bool)) : Nat → Nat → Option ((Bool) ⊕ (Unit))
  | 0, _ => none
  | k8 + 1, i3 =>
    if ltI ((i3 : Nat) : Int) (a1.length : Int) then
      (a1[i3]?).bind fun x12 =>
      (b2[i3]?).bind fun x14 =>
      if !(eqB x12 x14) then
        some (.inl false)
      else
        M.ref48_same_l1 a1 b2 k8 (i3 + 1)
    else
      some (.inr ())
def M.ref48_same (fuel : Nat) (a1 : (List Bool)) (b2 : (List Bool)) : Option (Bool) :=
  (M.ref48_same_l1 a1 b2 fuel 0).bind fun o => Sum.elim some (fun o4 =>
    some true) o
def M.ref48_meets (fuel : Nat) (at1 : Int) (depth2 : Int) (set3 : (List Bool)) (l4 : (List Bool)) (l5 : (List Int)) (l6 : (List (List Bool))) : Option (Bool × Bool × (List Bool) × (List Int) × (List (List Bool))) :=
  (ixC l4 at1).bind fun u7 =>
  (l4[Int.toNat at1]?).bind fun x11 =>
  if !x11 then
    (ixC l4 at1).bind fun u18 =>
    (ixC l5 at1).bind fun u22 =>
    (ixC l6 at1).bind fun u26 =>
    some (true, true, l4.set (Int.toNat at1) true, l5.set (Int.toNat at1) depth2, l6.set (Int.toNat at1) set3)
  else
    (ixC l5 at1).bind fun u31 =>
    (l5[Int.toNat at1]?).bind fun x35 =>
    if !(eqI x35 depth2) then
      some (false, false, l4, l5, l6)
    else
      (ixC l6 at1).bind fun u45 =>
      (l6[Int.toNat at1]?).bind fun x49 =>
      (M.ref48_both fuel x49 set3).bind fun v54 =>
      (ixC l6 at1).bind fun u56 =>
      (l6[Int.toNat at1]?).bind fun x60 =>
      (M.ref48_same fuel v54 x60).bind fun v65 =>
      if v65 then
        some (true, false, l4, l5, l6)
      else
        (ixC l6 at1).bind fun u68 =>
        some (true, true, l4, l5, l6.set (Int.toNat at1) v54)
def M.ref46_Effect (i1 : Api.Instr) : Option (Int × Int × Int) :=
  if eqI i1.Op 1 then
    (M.ref46_in 0 0 1000).bind fun v4 =>
    if !v4 then
      some (0, 0, 2)
    else
      some (0, 1, 0)
  else if eqI i1.Op 2 then
    (M.ref46_in 0 0 1000).bind fun v13 =>
    if !v13 then
      some (0, 0, 2)
    else
      some (0, 1, 0)
  else if eqI i1.Op 3 then
    (M.ref46_in 0 0 1000).bind fun v22 =>
    if !v22 then
      some (0, 0, 2)
    else
      some (0, 1, 0)
  else if eqI i1.Op 5 then
    (M.ref46_in 0 0 1000).bind fun v31 =>
    if !v31 then
      some (0, 0, 2)
    else
      some (0, 1, 0)
  else if eqI i1.Op 6 then
    (M.ref46_in 0 0 1000).bind fun v40 =>
    if !v40 then
      some (0, 0, 2)
    else
      some (0, 1, 0)
  else if eqI i1.Op 4 then
    (M.ref46_in 1 0 1000).bind fun v49 =>
    if !v49 then
      some (0, 0, 2)
    else
      some (1, 0, 0)
  else if eqI i1.Op 9 then
    (M.ref46_in 1 0 1000).bind fun v58 =>
    if !v58 then
      some (0, 0, 2)
    else
      some (1, 0, 0)
  else if eqI i1.Op 13 then
    (M.ref46_in 1 0 1000).bind fun v67 =>
    if !v67 then
      some (0, 0, 2)
    else
      some (1, 0, 0)
  else if eqI i1.Op 7 then
    (M.ref46_in i1.B 0 1000).bind fun v76 =>
    if !v76 then
      some (0, 0, 2)
    else
      some (i1.B, 1, 0)
  else if eqI i1.Op 8 then
    (M.ref46_in 2 0 1000).bind fun v85 =>
    if !v85 then
      some (0, 0, 2)
    else
      some (2, 1, 0)
  else if eqI i1.Op 10 then
    (M.ref46_in i1.A 0 1000).bind fun v94 =>
    if !v94 then
      some (0, 0, 2)
    else
      some (i1.A, 1, 0)
  else if eqI i1.Op 11 then
    (M.ref46_in 1 0 1000).bind fun v103 =>
    if !v103 then
      some (0, 0, 2)
    else
      some (1, 1, 0)
  else if eqI i1.Op 12 then
    (M.ref46_in 1 0 1000).bind fun v112 =>
    if !v112 then
      some (0, 0, 2)
    else
      some (1, 1, 0)
  else if eqI i1.Op 14 then
    (M.ref46_in 0 0 1000).bind fun v121 =>
    if !v121 then
      some (0, 0, 2)
    else
      some (0, 0, 0)
  else if eqI i1.Op 16 then
    (M.ref46_in 0 0 1000).bind fun v130 =>
    if !v130 then
      some (0, 0, 2)
    else
      some (0, 0, 0)
  else if eqI i1.Op 15 then
    (M.ref46_Arity i1.A).bind fun v139 =>
    if eqI v139 0 then
      some (0, 0, 2)
    else
      (M.ref46_in v139 0 1000).bind fun v144 =>
      if !v144 then
        some (0, 0, 2)
      else
        some (v139, 1, 0)
  else
    some (0, 0, 2)
def M.ref48_passes (f1 : Api.Fun) (at2 : Int) (depth3 : Int) (set4 : (List Bool)) : Option (Int × Bool) :=
  (idx f1.Code at2).bind fun x5 =>
  (M.ref46_Effect x5).bind fun v9 =>
  (if !(eqI v9.2.2 0) then
    some true
  else if ltI depth3 v9.1 then
    some true
  else if eqI x5.Op 9 then
    if !(eqI depth3 1) then
      some true
    else
      (chk .i64 (depth3 - v9.1)).bind fun n26 =>
      (chk .i64 (n26 + v9.2.1)).bind fun n31 =>
      some (ltI f1.Depth n31)
  else
    (chk .i64 (depth3 - v9.1)).bind fun n37 =>
    (chk .i64 (n37 + v9.2.1)).bind fun n42 =>
    some (ltI f1.Depth n42) : Option Bool).bind fun b47 =>
  if b47 then
    some (0, false)
  else
    ((chk .i64 (depth3 - v9.1)).bind fun n50 =>
    (chk .i64 (n50 + v9.2.1)).bind fun n55 =>
    if !(eqI x5.Op 3) then
      some (n55, true)
    else
      (idx set4 x5.A).bind fun x65 =>
      some (n55, x65) : Option (Int × Bool)).bind fun v69 =>
    some (v69.1, v69.2)
def M.ref46_Targets_l1 : Nat → Option (Unit)
  | 0 => none
  | k31 + 1 =>
    if ltI 0 (([] : List Int).length : Int) then
      none
    else
      some ()
def M.ref46_Targets_l2 : Nat → Option (Unit)
  | 0 => none
  | k44 + 1 =>
    if ltI 0 (([] : List Int).length : Int) then
      none
    else
      some ()
def M.ref46_Targets_l3 (f1 : Api.Fun) (l54 : (List Int)) : Nat → Nat → Option (((List Int) × Int) ⊕ (Unit))
  | 0, _ => none
  | k63 + 1, k58 =>
    if ltI ((k58 : Nat) : Int) (l54.length : Int) then
      (l54[k58]?).bind fun x67 =>
      (chk .i64 ((f1.Code.length : Int) - 1)).bind fun n69 =>
      (M.ref46_in x67 0 n69).bind fun v74 =>
      if !v74 then
        some (.inl (([] : List Int), 24))
      else
        M.ref46_Targets_l3 f1 l54 k63 (k58 + 1)
    else
      some (.inr ())
def M.ref46_Targets_l5 (f1 : Api.Fun) (o94 : (List Int)) : Nat → Nat → Option (((List Int) × Int) ⊕ (Unit))
  | 0, _ => none
  | k122 + 1, k117 =>
    if ltI ((k117 : Nat) : Int) (o94.length : Int) then
      (o94[k117]?).bind fun x126 =>
      (chk .i64 ((f1.Code.length : Int) - 1)).bind fun n128 =>
      (M.ref46_in x126 0 n128).bind fun v133 =>
      if !v133 then
        some (.inl (([] : List Int), 24))
      else
        M.ref46_Targets_l5 f1 o94 k122 (k117 + 1)
    else
      some (.inr ())
def M.ref46_Targets_l4 (at2 : Int) (x22 : Api.Instr) : Nat → (List Int) → Int → Option ((List Int))
  | 0, _, _ => none
  | k98 + 1, out92, k93 =>
    if leI k93 x22.B then
      (chk .i64 (at2 + k93)).bind fun n101 =>
      (app 8 out92 [n101]).bind fun l106 =>
      (chk .i64 (k93 + 1)).bind fun n110 =>
      M.ref46_Targets_l4 at2 x22 k98 l106 n110
    else
      some out92
def M.ref46_Targets_l6 (f1 : Api.Fun) (l150 : (List Int)) : Nat → Nat → Option (((List Int) × Int) ⊕ (Unit))
  | 0, _ => none
  | k159 + 1, k154 =>
    if ltI ((k154 : Nat) : Int) (l150.length : Int) then
      (l150[k154]?).bind fun x163 =>
      (chk .i64 ((f1.Code.length : Int) - 1)).bind fun n165 =>
      (M.ref46_in x163 0 n165).bind fun v170 =>
      if !v170 then
        some (.inl (([] : List Int), 24))
      else
        M.ref46_Targets_l6 f1 l150 k159 (k154 + 1)
    else
      some (.inr ())
def M.ref46_Targets (fuel : Nat) (f1 : Api.Fun) (at2 : Int) : Option ((List Int) × Int) :=
  ((chk .i64 ((f1.Code.length : Int) - 1)).bind fun n3 =>
  (M.ref46_in at2 0 n3).bind fun v8 =>
  if !v8 then
    some true
  else
    (idx f1.Code at2).bind fun x13 =>
    (M.ref46_Word x13.Op).bind fun v17 =>
    some (eqS v17 ([] : List UInt8)) : Option Bool).bind fun b19 =>
  if b19 then
    some (([] : List Int), 2)
  else
    (idx f1.Code at2).bind fun x22 =>
    if eqI x22.Op 9 then
      (M.ref46_Targets_l1 fuel).bind fun o28 =>
      some (([] : List Int), 0)
    else if eqI x22.Op 16 then
      (M.ref46_Targets_l2 fuel).bind fun o41 =>
      some (([] : List Int), 0)
    else if eqI x22.Op 14 then
      (app 8 ([] : List Int) [x22.A]).bind fun l54 =>
      (M.ref46_Targets_l3 f1 l54 fuel 0).bind fun o => Sum.elim some (fun o59 =>
        some (l54, 0)) o
    else if eqI x22.Op 13 then
      (M.ref46_in x22.B 1 1000).bind fun v87 =>
      if !v87 then
        some (([] : List Int), 24)
      else
        (M.ref46_Targets_l4 at2 x22 fuel ([] : List Int) 1).bind fun o94 =>
        (M.ref46_Targets_l5 f1 o94 fuel 0).bind fun o => Sum.elim some (fun o118 =>
          some (o94, 0)) o
    else
      (chk .i64 (at2 + 1)).bind fun n145 =>
      (app 8 ([] : List Int) [n145]).bind fun l150 =>
      (M.ref46_Targets_l6 f1 l150 fuel 0).bind fun o => Sum.elim some (fun o155 =>
        some (l150, 0)) o
def M.ref48_after (i1 : Api.Instr) (set2 : (List Bool)) : Option ((List Bool)) :=
  (clC 1 set2).bind fun l3 =>
  if (eqI i1.Op 4) || (eqI i1.Op 13) then
    (ixC l3 i1.A).bind fun u12 =>
    some (l3.set (Int.toNat i1.A) true)
  else
    some l3
def M.ref48_Fun_l3 (fuel : Nat) (v95 : Int × Bool) (v97 : (List Int) × Int) (v119 : (List Bool)) : Nat → (List Bool) → (List Int) → (List (List Bool)) → Bool → Nat → Option ((Ref48.States × Bool) ⊕ (Bool × (List Bool) × (List Int) × (List (List Bool))))
  | 0, _, _, _, _, _ => none
  | k130 + 1, l121, l122, l123, changed124, k125 =>
    if ltI ((k125 : Nat) : Int) (v97.1.length : Int) then
      (v97.1[k125]?).bind fun x134 =>
      (M.ref48_meets fuel x134 v95.1 v119 l121 l122 l123).bind fun v136 =>
      (lenC v136.2.2.1 l121).bind fun u138 =>
      (lenC v136.2.2.2.1 l122).bind fun u141 =>
      (lenC v136.2.2.2.2 l123).bind fun u144 =>
      if !v136.1 then
        some (.inl ((Ref48.States.mk ([] : List Bool) ([] : List Int) ([] : List (List Bool))), false))
      else
        M.ref48_Fun_l3 fuel v95 v97 v119 k130 v136.2.2.1 v136.2.2.2.1 v136.2.2.2.2 (changed124 || v136.2.1) (k125 + 1)
    else
      some (.inr (changed124, l121, l122, l123))
def M.ref48_Fun_l2 (fuel : Nat) (f1 : Api.Fun) : Nat → (List Bool) → (List Int) → (List (List Bool)) → Bool → Nat → Option ((Ref48.States × Bool) ⊕ (Bool × (List Bool) × (List Int) × (List (List Bool))))
  | 0, _, _, _, _, _ => none
  | k60 + 1, l51, l52, l53, changed54, at55 =>
    if ltI ((at55 : Nat) : Int) (f1.Code.length : Int) then
      (ixC l51 ((at55 : Nat) : Int)).bind fun u64 =>
      (l51[at55]?).bind fun x68 =>
      if !x68 then
        M.ref48_Fun_l2 fuel f1 k60 l51 l52 l53 changed54 (at55 + 1)
      else
        (ixC l52 ((at55 : Nat) : Int)).bind fun u77 =>
        (l52[at55]?).bind fun x81 =>
        (ixC l53 ((at55 : Nat) : Int)).bind fun u86 =>
        (l53[at55]?).bind fun x90 =>
        (M.ref48_passes f1 ((at55 : Nat) : Int) x81 x90).bind fun v95 =>
        (M.ref46_Targets fuel f1 ((at55 : Nat) : Int)).bind fun v97 =>
        if (!v95.2) || (!(eqI v97.2 0)) then
          some (.inl ((Ref48.States.mk ([] : List Bool) ([] : List Int) ([] : List (List Bool))), false))
        else
          (f1.Code[at55]?).bind fun x108 =>
          (ixC l53 ((at55 : Nat) : Int)).bind fun u110 =>
          (l53[at55]?).bind fun x114 =>
          (M.ref48_after x108 x114).bind fun v119 =>
          (M.ref48_Fun_l3 fuel v95 v97 v119 fuel l51 l52 l53 changed54 0).bind fun o => Sum.elim (fun r => some (.inl r)) (fun o126 =>
            M.ref48_Fun_l2 fuel f1 k60 o126.2.1 o126.2.2.1 o126.2.2.2 o126.1 (at55 + 1)) o
    else
      some (.inr (changed54, l51, l52, l53))
def M.ref48_Fun_l4 (f1 : Api.Fun) (o45 : (List Bool) × (List Int) × (List (List Bool))) : Nat → (List Int) → Nat → Option ((List Int))
  | 0, _, _ => none
  | k180 + 1, l175, at176 =>
    if ltI ((at176 : Nat) : Int) (f1.Code.length : Int) then
      (ixC o45.1 ((at176 : Nat) : Int)).bind fun u184 =>
      (o45.1[at176]?).bind fun x188 =>
      if !x188 then
        (ixC l175 ((at176 : Nat) : Int)).bind fun u195 =>
        M.ref48_Fun_l4 f1 o45 k180 (l175.set at176 (-1)) (at176 + 1)
      else
        M.ref48_Fun_l4 f1 o45 k180 l175 (at176 + 1)
    else
      some l175
def M.ref48_Fun_l1 (fuel : Nat) (f1 : Api.Fun) : Nat → (List Bool) → (List Int) → (List (List Bool)) → Bool → Option ((Ref48.States × Bool) ⊕ ((List Bool) × (List Int) × (List (List Bool))))
  | 0, _, _, _, _ => none
  | k49 + 1, l41, l42, l43, changed44 =>
    if changed44 then
      (M.ref48_Fun_l2 fuel f1 fuel l41 l42 l43 false 0).bind fun o => Sum.elim (fun r => some (.inl r)) (fun o56 =>
        M.ref48_Fun_l1 fuel f1 k49 o56.2.1 o56.2.2.1 o56.2.2.2 o56.1) o
    else
      some (.inr (l41, l42, l43))
def M.ref48_Fun (fuel : Nat) (f1 : Api.Fun) : Option (Ref48.States × Bool) :=
  (mkL 1 (f1.Code.length : Int) false).bind fun l2 =>
  (mkL 8 (f1.Code.length : Int) 0).bind fun l8 =>
  (mkL 24 (f1.Code.length : Int) ([] : List Bool)).bind fun l14 =>
  (mkL 1 f1.Locals false).bind fun l20 =>
  (ixC l20 0).bind fun u26 =>
  (M.ref48_meets fuel 0 0 (l20.set 0 true) l2 l8 l14).bind fun v30 =>
  (lenC v30.2.2.1 l2).bind fun u32 =>
  (lenC v30.2.2.2.1 l8).bind fun u35 =>
  (lenC v30.2.2.2.2 l14).bind fun u38 =>
  (M.ref48_Fun_l1 fuel f1 fuel v30.2.2.1 v30.2.2.2.1 v30.2.2.2.2 true).bind fun o => Sum.elim some (fun o45 =>
    (M.ref48_Fun_l4 f1 o45 fuel o45.2.1 0).bind fun o177 =>
    some ((Ref48.States.mk o45.1 o177 o45.2.2), true)) o
def M.ref48_Of (fuel : Nat) (p1 : Api.Program) (n2 : Int) : Option (Ref48.States × Int) :=
  (M.ref46_Valid fuel p1).bind fun v3 =>
  if !v3 then
    some ((Ref48.States.mk ([] : List Bool) ([] : List Int) ([] : List (List Bool))), 1)
  else if (ltI n2 0) || (leI (p1.Funs.length : Int) n2) then
    some ((Ref48.States.mk ([] : List Bool) ([] : List Int) ([] : List (List Bool))), 2)
  else
    (idx p1.Funs n2).bind fun x17 =>
    (M.ref48_Fun fuel x17).bind fun v21 =>
    if !v21.2 then
      some ((Ref48.States.mk ([] : List Bool) ([] : List Int) ([] : List (List Bool))), 24)
    else
      some (v21.1, 0)
def M.ref48_Check_l1 (fuel : Nat) (p1 : Api.Program) : Nat → Nat → Option ((Int) ⊕ (Unit))
  | 0, _ => none
  | k12 + 1, n7 =>
    if ltI ((n7 : Nat) : Int) (p1.Funs.length : Int) then
      (p1.Funs[n7]?).bind fun x16 =>
      (M.ref48_Fun fuel x16).bind fun v18 =>
      if !v18.2 then
        some (.inl 24)
      else
        M.ref48_Check_l1 fuel p1 k12 (n7 + 1)
    else
      some (.inr ())
def M.ref48_Check (fuel : Nat) (p1 : Api.Program) : Option (Int) :=
  (M.ref46_Valid fuel p1).bind fun v2 =>
  if !v2 then
    some 1
  else
    (M.ref48_Check_l1 fuel p1 fuel 0).bind fun o => Sum.elim some (fun o8 =>
      some 0) o
def M.verify_Fun (fuel : Nat) (p : Api.Program) (n : Int) : Option Int :=
  (M.verify_function fuel p n).bind fun r => some (match r with
    | .inl e => e
    | .inr _ => 0)
def M.law48_VerifyChecks (fuel : Nat) (p1 : Api.Program) (n2 : Int) : Option (Bool) :=
  (M.law48_awake fuel).bind fun v3 =>
  if !v3 then
    some false
  else
    (M.law48_big fuel p1).bind fun v8 =>
    if v8 then
      some true
    else
      (M.ref48_Of fuel p1 n2).bind fun v11 =>
      ((M.verify_Check fuel p1).bind fun v13 =>
      (M.ref48_Check fuel p1).bind fun v15 =>
      if eqI v13 v15 then
        (M.verify_Fun fuel p1 n2).bind fun v19 =>
        some (eqI v19 v11.2)
      else
        some false : Option Bool).bind fun b22 =>
      some b22
def M.verify_Reached_l : List Int → List Bool → Option (List Bool)
  | [], out => some out
  | d :: l, out => (app 1 out [leI 0 d]).bind fun out => M.verify_Reached_l l out
def M.verify_Reached (fuel : Nat) (p : Api.Program) (n : Int) : Option (List Bool × Int) :=
  (M.verify_function fuel p n).bind fun r => match r with
    | .inl e => some ([], e)
    | .inr q => (M.verify_Reached_l q.D []).bind fun out => some (out, 0)
def M.verify_Set (fuel : Nat) (p : Api.Program) (n : Int) : Option (List (List Bool) × Int) :=
  (M.verify_function fuel p n).bind fun r => match r with
    | .inl e => some ([], e)
    | .inr q => (M.rowsOf q.f.Locals.toNat q.R q.S).bind fun s => some (s, 0)
def M.slices_Equal_bool_l1 (s11 : (List Bool)) (s22 : (List Bool)) : Nat → Nat → Option ((Bool) ⊕ (Unit))
  | 0, _ => none
  | k13 + 1, i8 =>
    if ltI ((i8 : Nat) : Int) (s11.length : Int) then
      (s11[i8]?).bind fun x17 =>
      (s22[i8]?).bind fun x19 =>
      if !(eqB x17 x19) then
        some (.inl false)
      else
        M.slices_Equal_bool_l1 s11 s22 k13 (i8 + 1)
    else
      some (.inr ())
def M.slices_Equal_bool (fuel : Nat) (s11 : (List Bool)) (s22 : (List Bool)) : Option (Bool) :=
  if !(eqI (s11.length : Int) (s22.length : Int)) then
    some false
  else
    (M.slices_Equal_bool_l1 s11 s22 fuel 0).bind fun o => Sum.elim some (fun o9 =>
      some true) o
def M.slices_EqualFunc_x__bool_Equal___bool_bool__l1 (fuel : Nat) (s11 : (List (List Bool))) (s22 : (List (List Bool))) : Nat → Nat → Option ((Bool) ⊕ (Unit))
  | 0, _ => none
  | k13 + 1, i8 =>
    if ltI ((i8 : Nat) : Int) (s11.length : Int) then
      (s11[i8]?).bind fun x17 =>
      (s22[i8]?).bind fun x19 =>
      (M.slices_Equal_bool fuel x17 x19).bind fun v21 =>
      if !v21 then
        some (.inl false)
      else
        M.slices_EqualFunc_x__bool_Equal___bool_bool__l1 fuel s11 s22 k13 (i8 + 1)
    else
      some (.inr ())
def M.slices_EqualFunc_x__bool_Equal___bool_bool_ (fuel : Nat) (s11 : (List (List Bool))) (s22 : (List (List Bool))) : Option (Bool) :=
  if !(eqI (s11.length : Int) (s22.length : Int)) then
    some false
  else
    (M.slices_EqualFunc_x__bool_Equal___bool_bool__l1 fuel s11 s22 fuel 0).bind fun o => Sum.elim some (fun o9 =>
      some true) o
def M.law48_VerifyTables (fuel : Nat) (p1 : Api.Program) (n2 : Int) : Option (Bool) :=
  (M.law48_awake fuel).bind fun v3 =>
  if !v3 then
    some false
  else
    (M.law48_big fuel p1).bind fun v8 =>
    if v8 then
      some true
    else
      (M.verify_Reached fuel p1 n2).bind fun v11 =>
      (M.verify_Depths fuel p1 n2).bind fun v13 =>
      (M.verify_Set fuel p1 n2).bind fun v15 =>
      (M.ref48_Of fuel p1 n2).bind fun v17 =>
      (if eqI v11.2 v17.2 then
        if eqI v13.2 v17.2 then
          if eqI v15.2 v17.2 then
            (M.slices_Equal_bool fuel v11.1 v17.1.Reached).bind fun v25 =>
            if v25 then
              (M.slices_Equal_int fuel v13.1 v17.1.Depths).bind fun v28 =>
              if v28 then
                (M.slices_EqualFunc_x__bool_Equal___bool_bool_ fuel v15.1 v17.1.Set).bind fun v31 =>
                some v31
              else
                some false
            else
              some false
          else
            some false
        else
          some false
      else
        some false : Option Bool).bind fun b36 =>
      some b36
def M.law48_VerifyWays_l2 (l103 : (List Bool)) (x141 : (List Bool)) : Nat → Nat → Option ((Bool) ⊕ (Unit))
  | 0, _ => none
  | k150 + 1, i145 =>
    if ltI ((i145 : Nat) : Int) (x141.length : Int) then
      (x141[i145]?).bind fun x154 =>
      (if x154 then
        (ixC l103 ((i145 : Nat) : Int)).bind fun u157 =>
        (l103[i145]?).bind fun x161 =>
        some (!x161)
      else
        some false : Option Bool).bind fun b166 =>
      if b166 then
        some (.inl false)
      else
        M.law48_VerifyWays_l2 l103 x141 k150 (i145 + 1)
    else
      some (.inr ())
def M.law48_VerifyWays_l1 (fuel : Nat) (choices3 : (List UInt8)) (x35 : Api.Fun) (v39 : (List Bool) × Int) (v41 : (List Int) × Int) (v43 : (List (List Bool)) × Int) : Nat → (List Bool) → Int → Int → Nat → Option ((Bool) ⊕ ((List Bool)))
  | 0, _, _, _, _ => none
  | k112 + 1, l103, at104, depth105, i106 =>
    if ltI ((i106 : Nat) : Int) (choices3.length : Int) then
      (choices3[i106]?).bind fun x116 =>
      ((idx v39.1 at104).bind fun x118 =>
      if !x118 then
        some true
      else
        (idx v41.1 at104).bind fun x125 =>
        if !(eqI x125 depth105) then
          some true
        else
          (idx v43.1 at104).bind fun x134 =>
          some (!(eqI (x134.length : Int) x35.Locals)) : Option Bool).bind fun b138 =>
      if b138 then
        some (.inl false)
      else
        (idx v43.1 at104).bind fun x141 =>
        (M.law48_VerifyWays_l2 l103 x141 fuel 0).bind fun o => Sum.elim (fun r => some (.inl r)) (fun o146 =>
          (idx x35.Code at104).bind fun x173 =>
          (M.bytecode_Effect x173).bind fun v177 =>
          (M.bytecode_Targets fuel x35 at104).bind fun v179 =>
          (if !(eqI v177.2.2 0) then
            some true
          else if !(eqI v179.2 0) then
            some true
          else if ltI depth105 v177.1 then
            some true
          else
            (chk .i64 (depth105 - v177.1)).bind fun n194 =>
            (chk .i64 (n194 + v177.2.1)).bind fun n199 =>
            if ltI x35.Depth n199 then
              some true
            else if eqI x173.Op 3 then
              (ixC l103 x173.A).bind fun u209 =>
              (l103[Int.toNat x173.A]?).bind fun x213 =>
              if !x213 then
                some true
              else if eqI x173.Op 9 then
                some (!(eqI depth105 1))
              else
                some false
            else if eqI x173.Op 9 then
              some (!(eqI depth105 1))
            else
              some false : Option Bool).bind fun b228 =>
          if b228 then
            some (.inl false)
          else
            (chk .i64 (v177.2.1 - v177.1)).bind fun n231 =>
            (chk .i64 (depth105 + n231)).bind fun n236 =>
            if (eqI x173.Op 4) || (eqI x173.Op 13) then
              (ixC l103 x173.A).bind fun u245 =>
              if eqI (v179.1.length : Int) 0 then
                some (.inl true)
              else
                (modC .i64 (Int.tmod (x116.toNat : Int) (v179.1.length : Int)) (v179.1.length : Int)).bind fun n253 =>
                (idx v179.1 n253).bind fun x257 =>
                if (ltI x257 0) || (leI (x35.Code.length : Int) x257) then
                  some (.inl false)
                else
                  M.law48_VerifyWays_l1 fuel choices3 x35 v39 v41 v43 k112 (l103.set (Int.toNat x173.A) true) x257 n236 (i106 + 1)
            else if eqI (v179.1.length : Int) 0 then
              some (.inl true)
            else
              (modC .i64 (Int.tmod (x116.toNat : Int) (v179.1.length : Int)) (v179.1.length : Int)).bind fun n279 =>
              (idx v179.1 n279).bind fun x283 =>
              if (ltI x283 0) || (leI (x35.Code.length : Int) x283) then
                some (.inl false)
              else
                M.law48_VerifyWays_l1 fuel choices3 x35 v39 v41 v43 k112 l103 x283 n236 (i106 + 1)) o
    else
      some (.inr l103)
def M.law48_VerifyWays (fuel : Nat) (p1 : Api.Program) (n2 : Int) (choices3 : (List UInt8)) : Option (Bool) :=
  (M.law48_awake fuel).bind fun v4 =>
  if !v4 then
    some false
  else
    ((M.law48_big fuel p1).bind fun v9 =>
    if v9 then
      some true
    else if ltI 400 (choices3.length : Int) then
      some true
    else
      (M.verify_Fun fuel p1 n2).bind fun v17 =>
      if !(eqI v17 0) then
        some true
      else
        (M.ref46_Valid fuel p1).bind fun v24 =>
        if !v24 then
          some true
        else if ltI n2 0 then
          some true
        else
          some (leI (p1.Funs.length : Int) n2) : Option Bool).bind fun b32 =>
    if b32 then
      some true
    else
      (idx p1.Funs n2).bind fun x35 =>
      (M.verify_Reached fuel p1 n2).bind fun v39 =>
      (M.verify_Depths fuel p1 n2).bind fun v41 =>
      (M.verify_Set fuel p1 n2).bind fun v43 =>
      if (!(eqI v39.2 0)) || ((!(eqI v41.2 0)) || ((!(eqI v43.2 0)) || ((!(eqI (v39.1.length : Int) (x35.Code.length : Int))) || ((!(eqI (v41.1.length : Int) (x35.Code.length : Int))) || (!(eqI (v43.1.length : Int) (x35.Code.length : Int))))))) then
        some false
      else
        (mkL 1 x35.Locals false).bind fun l93 =>
        (ixC l93 0).bind fun u99 =>
        (M.law48_VerifyWays_l1 fuel choices3 x35 v39 v41 v43 fuel (l93.set 0 true) 0 0 0).bind fun o => Sum.elim some (fun o107 =>
          some true) o
def M.slices_Clone_api_Fun (s1 : (List Api.Fun)) : Option ((List Api.Fun)) :=
  (neC s1).bind fun u2 =>
  (clC 48 s1).bind fun l5 =>
  some l5
def M.law48_VerifyDepths_1 (fuel : Nat) (depth1 : Int) (w2 : Api.Program) (c3 : Int) : Option (Int) :=
  (M.slices_Clone_api_Fun w2.Funs).bind fun v4 =>
  (ixC v4 c3).bind fun u6 =>
  (v4[(Int.toNat c3)]?).bind fun x10 =>
  (M.verify_Fun fuel (Api.Program.mk (v4.set (Int.toNat c3) (Api.Fun.mk x10.Captures x10.Locals depth1 x10.Code)) w2.Texts w2.Main) c3).bind fun v14 =>
  some v14
def M.law48_VerifyDepths_l1 (v25 : (List Int) × Int) (x39 : Api.Fun) : Nat → Int → Nat → Option ((Bool) ⊕ (Int))
  | 0, _, _ => none
  | k50 + 1, most43, i44 =>
    if ltI ((i44 : Nat) : Int) (x39.Code.length : Int) then
      (x39.Code[i44]?).bind fun x54 =>
      (v25.1[i44]?).bind fun x56 =>
      if ltI x56 0 then
        M.law48_VerifyDepths_l1 v25 x39 k50 most43 (i44 + 1)
      else
        (M.bytecode_Effect x54).bind fun v62 =>
        if !(eqI v62.2.2 0) then
          some (.inl false)
        else
          (chk .i64 (x56 - v62.1)).bind fun n69 =>
          (chk .i64 (n69 + v62.2.1)).bind fun n74 =>
          M.law48_VerifyDepths_l1 v25 x39 k50 (maxI most43 n74) (i44 + 1)
    else
      some (.inr most43)
def M.law48_VerifyDepths (fuel : Nat) (p1 : Api.Program) (n2 : Int) (more3 : UInt8) : Option (Bool) :=
  (M.law48_awake fuel).bind fun v4 =>
  if !v4 then
    some false
  else
    ((M.law48_big fuel p1).bind fun v9 =>
    if v9 then
      some true
    else
      (M.verify_Fun fuel p1 n2).bind fun v12 =>
      if !(eqI v12 0) then
        some true
      else if ltI n2 0 then
        some true
      else
        some (leI (p1.Funs.length : Int) n2) : Option Bool).bind fun b22 =>
    if b22 then
      some true
    else
      (M.verify_Depths fuel p1 n2).bind fun v25 =>
      (if !(eqI v25.2 0) then
        some true
      else
        (idx p1.Funs n2).bind fun x32 =>
        some (!(eqI (v25.1.length : Int) (x32.Code.length : Int))) : Option Bool).bind fun b36 =>
      if b36 then
        some false
      else
        (idx p1.Funs n2).bind fun x39 =>
        (M.law48_VerifyDepths_l1 v25 x39 fuel 0 0).bind fun o => Sum.elim some (fun o45 =>
          ((chk .i64 (x39.Depth + (more3.toNat : Int))).bind fun n85 =>
          if leI n85 4096 then
            (M.law48_VerifyDepths_1 fuel n85 p1 n2).bind fun v94 =>
            some (!(eqI v94 0))
          else
            some false : Option Bool).bind fun b97 =>
          if b97 then
            some false
          else
            ((M.law48_VerifyDepths_1 fuel o45 p1 n2).bind fun v100 =>
            if eqI v100 0 then
              if eqI o45 0 then
                some true
              else
                (chk .i64 (o45 - 1)).bind fun n107 =>
                (M.law48_VerifyDepths_1 fuel n107 p1 n2).bind fun v112 =>
                some (eqI v112 24)
            else
              some false : Option Bool).bind fun b115 =>
            some b115) o
end Go.Proofs.Ythbjlmoaceaeeaa
set_option linter.unusedVariables false
set_option linter.unusedSimpArgs false
namespace Go.Proofs.Ythbjlmoaceaeeaa
open Go Go.Abs
def M.slices_Clone_api_Instr (s1 : (List Api.Instr)) : Option ((List Api.Instr)) :=
  (neC s1).bind fun _ => clC 24 s1
def M.law48_VerifyDead_l1 (fuel : Nat) (p1 : Api.Program) : Nat → Int → Nat → Option Int
  | 0, _, _ => none
  | k + 1, all, i =>
    if ltI ((i : Nat) : Int) (p1.Funs.length : Int) then
      (M.verify_Fun fuel p1 ((i : Nat) : Int)).bind fun e =>
      if (!(eqI e 0)) && (eqI all 0) then M.law48_VerifyDead_l1 fuel p1 k e (i + 1)
      else M.law48_VerifyDead_l1 fuel p1 k all (i + 1)
    else some all
def M.law48_VerifyDead_l2 (by3 : Api.Instr) : List Bool → Nat → List Api.Instr → Option (List Api.Instr)
  | [], _, code => some code
  | b :: l, i, code => if !b then (ixC code ((i : Nat) : Int)).bind fun _ => M.law48_VerifyDead_l2 by3 l (i + 1) (code.set i by3) else M.law48_VerifyDead_l2 by3 l (i + 1) code
def M.law48_VerifyDead (fuel : Nat) (p1 : Api.Program) (n2 : Int) (by3 : Api.Instr) : Option (Bool) :=
  (M.law48_awake fuel).bind fun v =>
  if !v then some false else
  (M.law48_big fuel p1).bind fun v =>
  if v then some true else
  (M.law48_VerifyDead_l1 fuel p1 fuel 0 0).bind fun all =>
  (M.bytecode_Valid fuel p1).bind fun v42 =>
  (if v42 then (M.verify_Check fuel p1).bind fun c => some (!(eqI c all)) else some false : Option Bool).bind fun b48 =>
  (if b48 then some true else (M.verify_Fun fuel p1 (p1.Funs.length : Int)).bind fun e => some (eqI e 0) : Option Bool).bind fun b55 =>
  if b55 then some false else
  (M.verify_Reached fuel p1 n2).bind fun r =>
  (M.verify_Depths fuel p1 n2).bind fun d =>
  if !(eqI r.2 0) then some (((eqI d.2 r.2) && (eqI (r.1.length : Int) 0)) && (eqI (d.1.length : Int) 0)) else
  (M.slices_Clone_api_Fun p1.Funs).bind fun fs =>
  (ixC fs n2).bind fun _ =>
  (idx p1.Funs n2).bind fun f =>
  (fs[n2.toNat]?).bind fun f0 =>
  (M.slices_Clone_api_Instr f.Code).bind fun code =>
  if (!(eqI d.2 0)) || (!(eqI (r.1.length : Int) (code.length : Int))) then some false else
  (M.law48_VerifyDead_l2 by3 r.1 0 code).bind fun code2 =>
  (lenC code2 code).bind fun _ =>
  (M.ref46_Valid fuel ⟨fs.set n2.toNat ⟨f0.Captures, f0.Locals, f0.Depth, code2⟩, p1.Texts, p1.Main⟩).bind fun v =>
  if !v then some true else
  (M.verify_Depths fuel ⟨fs.set n2.toNat ⟨f0.Captures, f0.Locals, f0.Depth, code2⟩, p1.Texts, p1.Main⟩ n2).bind fun x =>
  if eqI x.2 0 then M.slices_Equal_int fuel d.1 x.1 else some false
end Go.Proofs.Ythbjlmoaceaeeaa
