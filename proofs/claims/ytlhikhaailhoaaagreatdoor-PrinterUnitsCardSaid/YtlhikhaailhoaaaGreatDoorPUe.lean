/- For every input the law PrinterUnits returns true. Part 5 of 16. No condition. -/
import Derived.Test.YtlhikhaailhoaaaGreatDoorPUd
import Derived.Orders
set_option linter.unusedVariables false
set_option linter.unnecessarySimpa false
set_option linter.unusedSimpArgs false
set_option maxRecDepth 100000
set_option maxHeartbeats 1000000
namespace Go.Abs
open Go
theorem mem_anc {ops : List Oper} {L : Nat → Prop} (hcl : ∀ (j : Nat) o, ops[j]? = some o → L j → ∀ e, e ∈ zFa o → L e) :
  ∀ (j : Nat) o, ops[j]? = some o → (∀ e, e ∈ zFa o → L e) → ∀ k, k ∈ (zHM ops).getD j [] → L k := by
 have key : ∀ (pre suf : List Oper) (acc : List (List Nat)), ops = pre ++ suf → acc.length = pre.length →
   (∀ (j : Nat) o, pre[j]? = some o → (∀ e, e ∈ zFa o → L e) → ∀ k, k ∈ acc.getD j [] → L k) →
   (∀ (j : Nat) o, ops[j]? = some o → (∀ e, e ∈ zFa o → L e) → ∀ k, k ∈ (suf.foldl (fun acc o => acc ++ [((zFa o).flatMap fun e => e :: acc.getD e []).eraseDups]) acc).getD j [] → L k) := by
  intro pre suf
  induction suf generalizing pre with
  | nil =>
   intro acc he hl h j o hj ho k hk
   rw [List.append_nil] at he
   subst he
   exact h j o hj ho k hk
  | cons x suf ih =>
   intro acc he hl h
   simp only [List.foldl_cons]
   refine ih (pre ++ [x]) _ (by simp [he]) (by simp [hl]) fun j o hj ho k hk => ?_
   rcases zDn hj with ⟨hlt, hj1⟩ | ⟨q, rfl, hj1⟩
   ·rw [zGx (by omega)] at hk
    exact h j o hj1 ho k hk
   ·cases q with
    | succ q => simp at hj1
    | zero =>
     simp only [List.getElem?_cons_zero, Option.some.injEq] at hj1
     subst hj1
     rw [List.getD_eq_getElem?_getD, List.getElem?_append_right (by omega)] at hk
     simp only [Nat.add_zero, hl, Nat.sub_self, List.getElem?_cons_zero, Option.getD_some] at hk
     rw [List.mem_eraseDups] at hk
     obtain ⟨e, he1, he2⟩ := List.mem_flatMap.1 hk
     simp only [List.mem_cons] at he2
     rcases he2 with rfl | he2
     ·exact ho _ he1
     ·have hLe := ho e he1
      by_cases hlt : e < pre.length
      ·have hpe := List.getElem?_eq_getElem hlt
       have hoe : ops[e]? = some pre[e] := by rw [he, List.getElem?_append_left hlt]; exact hpe
       exact h e _ hpe (fun e' he' => hcl e _ hoe hLe e' he') k he2
      ·rw [List.getD_eq_getElem?_getD, List.getElem?_eq_none (by omega)] at he2
       cases he2
 exact key [] ops [] rfl rfl (fun j o hj => by simp at hj)
theorem regOk_mv {B : List Nat} {ops : Array Oper} {n : Nat} (h : regOk B ops n = true) : mvOk ops = true := by
 simp only [regOk, Bool.and_eq_true] at h; exact h.1.1
theorem regOk_spec {B : List Nat} {ops : Array Oper} {n : Nat} (h : regOk B ops n = true) : (∀ (j : Nat) o, ops[j]? = some o → ∀ e, e ∈ zFa o → e < j) ∧ dstsIn ops n ∧
  ∀ j, j < ops.size → ∀ k, k < j → k ∈ (zHM ops.toList).getD j [] ∨ comm B ops k j = true := by
 simp only [regOk, Bool.and_eq_true] at h
 replace h := And.intro h.1.2 h.2
 obtain ⟨h1, h2⟩ := h
 have h1' : ∀ (j : Nat) o, ops[j]? = some o → (zFa o).all (· < j) = true ∧ dstOk n o.dst = true := fun j o hj => by
  have hz : ops.toList.zipIdx[j]? = some (o, j) := by
   rw [List.getElem?_zipIdx, Array.getElem?_toList, hj]; simp
  have := (List.all_eq_true.1 h1) (o, j) (List.mem_of_getElem? hz)
  simpa only [Bool.and_eq_true] using this
 refine ⟨fun j o hj e he => by simpa using (List.all_eq_true.1 (h1' j o hj).1) e he, fun i o d hi hd => ?_, fun j hj k hk => ?_⟩
 ·have := (h1' i o hi).2
  rw [hd] at this
  simpa [dstOk] using this
 ·have := (List.all_eq_true.1 ((List.all_eq_true.1 h2) j (List.mem_range.2 hj))) k (List.mem_range.2 hk)
  simpa using this
theorem filter_split {p : Nat → Bool} {n i : Nat} (hi : i < n) (hp : p i = true) : ∃ u1 u2, (List.range n).filter p = u1 ++ i :: u2 ∧ (∀ k, k ∈ u1 → k < i ∧ p k = true) ∧
  (List.range n).filter (fun k => p k && k != i) = u1 ++ u2 := by
 obtain ⟨q, rfl⟩ : ∃ q, n = i + (1 + q) := ⟨n - (i + 1), by omega⟩
 have hr : List.range (i + (1 + q)) = List.range i ++ i :: (List.range' (i + 1) q) := by
  rw [List.range_eq_range', List.range_eq_range', ← List.range'_append_1, ← List.range'_append_1]
  simp [List.range'_one]
 refine ⟨(List.range i).filter p, (List.range' (i + 1) q).filter p, ?_, fun k hk => ?_, ?_⟩
 ·rw [hr, List.filter_append, List.filter_cons_of_pos hp]
 ·rw [List.mem_filter, List.mem_range] at hk; exact hk
 ·rw [hr, List.filter_append, List.filter_cons_of_neg (by simp)]
  congr 1
  ·apply List.filter_congr
   intro k hk
   rw [List.mem_range] at hk
   have : (k != i) = true := by simp; omega
   rw [this, Bool.and_true]
  ·apply List.filter_congr
   intro k hk
   rw [List.mem_range'_1] at hk
   have : (k != i) = true := by simp; omega
   rw [this, Bool.and_true]
theorem zHK {n : Nat} (l : Array Bool) (i j : Nat) (z : Bool) (hj : j < l.size) : (l.setIfInBounds i true).getD j z = if j = i then true else l.getD j z := by
 rw [Array.getD_eq_getD_getElem?, Array.getElem?_setIfInBounds]
 by_cases e : i = j
 ·subst e; simp [hj]
 ·simp [e, Ne.symm e, Array.getD_eq_getD_getElem?]
theorem anc_lt {ops : Array Oper} (hedge : ∀ (j : Nat) o, ops[j]? = some o → ∀ e, e ∈ zFa o → e < j) {k i : Nat} (hk : k < ops.size) (h : i ∈ (zHM ops.toList).getD k []) : i < k :=
 mem_anc (ops := ops.toList) (L := fun x => x < k) (fun j o hj hl e he => Nat.lt_trans (hedge j o (by simpa using hj) e he) hl) k ops[k] (by simp [Array.getElem?_eq_getElem hk]) (fun e he => hedge k ops[k] (Array.getElem?_eq_getElem hk) e he) i h
theorem pairwise_mv {ops : Array Oper} (hmv : mvOk ops = true) (hedge : ∀ (j : Nat) o, ops[j]? = some o → ∀ e, e ∈ zFa o → e < j) {p : Nat → Bool} {u1 u2 : List Nat} {i : Nat}
  (h : (List.range ops.size).filter p = u1 ++ i :: u2) : (u1 ++ [i]).Pairwise (fun k i => ¬ mvBad ops k i) := by
 have h1 : ((List.range ops.size).filter p).Pairwise (· < ·) := List.Pairwise.filter p List.pairwise_lt_range
 have h2 : (u1 ++ [i]).Pairwise (· < ·) := by
  rw [h, show u1 ++ i :: u2 = (u1 ++ [i]) ++ u2 by simp] at h1
  exact (List.pairwise_append.1 h1).1
 refine h2.imp fun {a b} hab hb => ?_
 have ha : a < ops.size := by obtain ⟨ok, _, _, h3, _⟩ := hb; exact lt_of_getElem? h3
 have := anc_lt hedge ha (mvOk_spec hmv hb)
 omega
theorem any_wp {P : Program} {B : List Nat} {ops : Array Oper} {Q : Exit → Act → World → Prop} {F : Fx} {n : Nat} (hok : regOk B ops n = true) : ∀ (fuel : Nat) (listed : Array Bool) (s s' : AState) (g : Gh) (a : Act) (w : World),
  listed.size = ops.size → ((List.range ops.size).filter fun i => !listed.getD i true).length ≤ fuel →
  (∀ (j : Nat) o, ops[j]? = some o → listed.getD j true = true → ∀ e, e ∈ zFa o → listed.getD e true = true) →
  Chain P B ops ((List.range ops.size).filter fun i => !listed.getD i true) s s' → Sim F g s a w → LFree ops ((List.range ops.size).filter fun i => !listed.getD i true) s → s.n = n → (∀ g a w, Sim F g s' a w → Q .normal a w) →
  wpAny P .any ops Q fuel listed a w := by
 obtain ⟨hedge, hdst, hcomm⟩ := regOk_spec hok
 have hin : ∀ (listed : Array Bool), listed.size = ops.size → ∀ i, i < ops.size → listed.getD i true = listed.getD i false := fun listed hsz i hi => by
  rw [Array.getD_eq_getD_getElem?, Array.getD_eq_getD_getElem?, Array.getElem?_eq_getElem (by omega)]; rfl
 have hleft : ∀ (listed : Array Bool), listed.size = ops.size → Region.ready .any ops listed = [] → ((List.range ops.size).filter fun i => !listed.getD i true) = [] := fun listed hsz hr => by
  have all : ∀ i, i < ops.size → listed.getD i true = true := by
   intro i
   induction i using Nat.strongRecOn with
   | _ i ih =>
    intro hi
    cases hv : listed.getD i true with
    | true => rfl
    | false =>
     have hmem : i ∈ Region.ready .any ops listed := mem_ready.2 ⟨hv, ops[i], Array.getElem?_eq_getElem hi, fun e he hb => by
      have hlt := hedge i _ (Array.getElem?_eq_getElem hi) e.on (List.mem_map.2 ⟨e, List.mem_filter.2 ⟨by simpa using he, hb⟩, rfl⟩)
      rw [← hin listed hsz e.on (by omega)]; exact ih e.on hlt (by omega)⟩
     rw [hr] at hmem; cases hmem
  rw [List.filter_eq_nil_iff]
  intro i hi
  rw [List.mem_range] at hi
  simp [all i hi]
 intro fuel
 induction fuel with
 | zero =>
  intro listed s s' g a w hsz hlen hcl hc hs hS hn hQ
  have hnil : ((List.range ops.size).filter fun i => !listed.getD i true) = [] := List.eq_nil_of_length_eq_zero (by omega)
  rw [hnil] at hc
  have : s' = s := hc
  subst this
  refine ⟨?_, hQ g a w hs⟩
  cases hr : Region.ready .any ops listed with
  | nil => rfl
  | cons i l =>
   have hi : i ∈ Region.ready .any ops listed := by rw [hr]; exact List.mem_cons_self ..
   obtain ⟨h1, o, h2, _⟩ := mem_ready.1 hi
   have : i ∈ ((List.range ops.size).filter fun i => !listed.getD i true) := List.mem_filter.2 ⟨List.mem_range.2 (lt_of_getElem? h2), by simp [h1]⟩
   rw [hnil] at this; cases this
 | succ fuel ih =>
  intro listed s s' g a w hsz hlen hcl hc hs hS hn hQ
  refine ⟨fun hr => ?_, fun i hi => ?_⟩
  ·rw [hleft listed hsz hr] at hc
   have : s' = s := hc
   subst this
   exact hQ g a w hs
  ·obtain ⟨h1, o, h2, h3⟩ := mem_ready.1 hi
   have hilt := lt_of_getElem? h2
   have hready : ∀ e, e ∈ zFa o → listed.getD e true = true := fun e he => by
    obtain ⟨ed, hed, rfl⟩ := List.mem_map.1 he
    rw [List.mem_filter] at hed
    have := h3 ed (by simpa using hed.1) hed.2
    have hlt := hedge i o h2 ed.on he
    rw [hin listed hsz _ (by omega)]; exact this
   obtain ⟨u1, u2, e1, e2, e3⟩ := filter_split (p := fun i => !listed.getD i true) hilt (by simp [h1])
   have hcm : ∀ k, k ∈ u1 → comm B ops k i = true := fun k hk => by
    obtain ⟨hlt, hk2⟩ := e2 k hk
    rcases hcomm i hilt k hlt with h | h
    ·exfalso
     have := mem_anc (ops := ops.toList) (L := fun j => listed.getD j true = true) (fun j o hj => hcl j o (by simpa using hj)) i o (by simpa using h2) hready k h
     rw [this] at hk2; simp at hk2
    ·exact h
   rw [e1, show u1 ++ i :: u2 = (u1 ++ [i]) ++ u2 by simp] at hc
   obtain ⟨m, hc1, hc2⟩ := (zFj _ _ _ _).1 hc
   obtain ⟨s1, g1, g2⟩ := front h2 u1 s m hc1 hcm (fun q hq => hS q (by rw [e1]; rcases List.mem_append.1 hq with hq | hq; exact List.mem_append_left _ hq; rw [List.mem_singleton.1 hq]; exact List.mem_append_right _ (List.mem_cons_self ..))) (pairwise_mv (regOk_mv hok) hedge e1) (by rw [hn]; exact hdst) (fun _ t _ => by rw [← hs.sto.len]; exact (hs.tmps t).1.isUnder)
   have hc' : Chain P B ops (u1 ++ u2) s1 s' := (zFj _ _ _ _).2 ⟨m, g2, hc2⟩
   obtain ⟨f1, f2, f3, f4⟩ := zHI g1
   have hS' : LFree ops (u1 ++ u2) s1 := fun q hq oq d hoq hd t hl => by
    have hq' : q ∈ (List.range ops.size).filter fun i => !listed.getD i true := by
     rw [e1]
     rcases List.mem_append.1 hq with hq | hq
     ·exact List.mem_append_left _ hq
     ·exact List.mem_append_right _ (List.mem_cons_of_mem _ hq)
    rcases f3 t d hl with h | ⟨hm, h⟩
    ·exact hS q hq' oq d hoq hd t h
    ·have h5 := mem_anc (ops := ops.toList) (L := fun j => listed.getD j true = true) (fun j o hj => hcl j o (by simpa using hj)) i o (by simpa using h2) hready q (mvOk_spec (regOk_mv hok) ⟨o, oq, d, h2, hoq, hm, h, hd⟩)
     rw [List.mem_filter, h5] at hq'
     cases hq'.2
   have hfil : ((List.range ops.size).filter fun k => !(listed.setIfInBounds i true).getD k true) = u1 ++ u2 := by
    rw [← e3]
    apply List.filter_congr
    intro k hk
    rw [List.mem_range] at hk
    rw [zHK (n := 0) listed i k true (by omega)]
    by_cases e : k = i
    ·simp [e]
    ·simp [e]
   have hgo := GStep.sound g1 hs (K := wpAny P .any ops Q fuel (listed.setIfInBounds i true)) (Q := Q) (fun g' a' w' hs' =>
    ih (listed.setIfInBounds i true) s1 s' g' a' w' (by simpa using hsz) (by
      rw [hfil]
      have := hlen
      rw [e1] at this
      simp only [List.length_append, List.length_cons] at this ⊢
      omega) (fun j oj hj hl e he => by
      have hjlt := lt_of_getElem? hj
      have helt := hedge j oj hj e he
      rw [zHK (n := 0) listed i j true (by omega)] at hl
      rw [zHK (n := 0) listed i e true (by omega)]
      split
      ·rfl
      ·split at hl
       ·rename_i hji
        subst hji
        rw [h2] at hj; cases hj
        exact hready e he
       ·exact hcl j oj hj hl e he) (by rw [hfil]; exact hc') hs' (by rw [hfil]; exact hS') (by rw [f1]; exact hn) hQ)
   unfold wpOp
   simp only [h2]
   split
   ·rename_i hw; rw [if_pos hw] at hgo; exact .inl hgo
   ·rename_i hw; rw [if_neg hw] at hgo; exact hgo
def CallD (P : Program) (f : FuncId) (args : List AV) (s : AState) (dst : Option Nat) (K : AState → Prop) : Prop :=
 ∃ res, Pure P f args res ∧ AV.flatL args = true ∧ res.owns = false ∧ K (s.putO dst res)
@[congr] theorem CallD_congr {P : Program} {f : FuncId} {args args' : List AV} {s : AState} {dst : Option Nat} {K : AState → Prop} (h : args = args') : CallD P f args s dst K = CallD P f args' s dst K := by rw [h]
theorem zDT {P : Program} {f : FuncId} {args : List AV} {s : AState} {dst : Option Nat} {K : AState → Prop} {res : AV} (h : Pure P f args res) (h1 : AV.flatL args = true) (h2 : res.owns = false) (h3 : K (s.putO dst res)) : CallD P f args s dst K :=
 ⟨res, h, h1, h2, h3⟩
def ResD (B : List Nat) (s : AState) (op : Op) (dst : Option Nat) (r : Option Res) (K : AState → Prop) : Prop :=
 match r with
 | some r => r.side ∧ Gd B s op ∧ K (s.putR dst r)
 | none => False
@[congr] theorem ResD_congr {B : List Nat} {s : AState} {op : Op} {dst : Option Nat} {r r' : Option Res} {K : AState → Prop} (h : r = r') : ResD B s op dst r K = ResD B s op dst r' K := by rw [h]
@[simp ↓] theorem ResD_some (B : List Nat) (s : AState) (op : Op) (dst : Option Nat) (r : Res) (K : AState → Prop) : ResD B s op dst (some r) K = (r.side ∧ Gd B s op ∧ K (s.putR dst r)) := Eq.trans rfl rfl
@[simp ↓] theorem ResD_none (B : List Nat) (s : AState) (op : Op) (dst : Option Nat) (K : AState → Prop) : ResD B s op dst none K = False := Eq.trans rfl rfl
def AStepD (P : Program) (B : List Nat) (o : Oper) (s : AState) (K : AState → Prop) : Prop :=
 match o.op with
 | .call c => match c.callee with
  | .value x => match s.look x with
   | .fn (.func f) first captured => CallD P f (zDi s first captured c.args) s o.dst K
   | _ => False
  | .builtin b => ResK s o.dst (zE1 P s c b) K
  | _ => False
 | op => ResD B s op o.dst (zHc P s op) K
@[congr] theorem AStepD_congr {P : Program} {B : List Nat} {o : Oper} {s s' : AState} {K : AState → Prop} (h : s = s') : AStepD P B o s K = AStepD P B o s' K := by rw [h]
theorem AStepD.ok {P : Program} {B : List Nat} {o : Oper} {s : AState} {K : AState → Prop} (h : AStepD P B o s K) : ∃ s', StepD P B o s s' ∧ K s' := by
 have other : ∀ r, zHc P s o.op = some r → r.side → Gd B s o.op → K (s.putR o.dst r) → ∃ s', StepD P B o s s' ∧ K s' := fun r h1 h2 hg h3 => ⟨_, .inr ⟨r, h1, h2, hg, rfl⟩, h3⟩
 unfold AStepD at h
 split at h
 ·rename_i c ho
  split at h
  ·rename_i x hc
   split at h
   ·rename_i f first captured hx
    obtain ⟨res, h1, h2, h3, h4⟩ := h
    exact ⟨_, .inl ⟨c, x, f, first, captured, res, ho, hc, hx, h1, h2, h3, rfl⟩, h4⟩
   ·exact h.elim
  ·rename_i b hc
   unfold ResK at h
   split at h
   ·rename_i r hr
    exact other r (by rw [ho]; simp only [zHc, hc]; exact hr) h.1 (by rw [ho]; trivial) h.2
   ·exact h.elim
  ·exact h.elim
 ·unfold ResD at h
  split at h
  ·rename_i r hr
   exact other r hr h.1 h.2.1 h.2.2
  ·exact h.elim
def AOpsD (P : Program) (B : List Nat) (ops : Array Oper) (K : AState → Prop) : List Oper → AState → Prop
 | [], s => K s
 | o :: l, s => match o.guard with
  | none => AStepD P B o s (AOpsD P B ops K l)
  | some (j, want) => zFc ((ops[j]?).bind (·.dst)) fun d => zHN (s.get d) want (AStepD P B o s (AOpsD P B ops K l)) (AOpsD P B ops K l (s.putO o.dst (.tup [])))
@[congr] theorem AOpsD_congr {P : Program} {B : List Nat} {ops : Array Oper} {K : AState → Prop} {l : List Oper} {s s' : AState} (h : s = s') : AOpsD P B ops K l s = AOpsD P B ops K l s' := by rw [h]
theorem AOpsD.chain {P : Program} {B : List Nat} {ops : Array Oper} {K : AState → Prop} : ∀ (l : List Oper) (k : Nat) (s : AState), (∀ j, l[j]? = ops[k + j]?) → AOpsD P B ops K l s →
  ∃ s', Chain P B ops (List.range' k l.length) s s' ∧ K s' := by
 intro l
 induction l with
 | nil => exact fun k s _ h => ⟨s, rfl, h⟩
 | cons o l ih =>
  intro k s hl h
  have h0 : ops[k]? = some o := by simpa using (hl 0).symm
  have hl' : ∀ j, l[j]? = ops[k + 1 + j]? := fun j => by have := hl (j + 1); simpa [Nat.add_assoc, Nat.add_comm 1 j] using this
  have go : ∀ s1, GStep P B ops o s s1 → AOpsD P B ops K l s1 → ∃ s', Chain P B ops (List.range' k (o :: l).length) s s' ∧ K s' := fun s1 h1 h2 => by
   obtain ⟨s', h3, h4⟩ := ih (k + 1) s1 hl' h2
   refine ⟨s', ?_, h4⟩
   rw [List.length_cons, List.range'_succ]
   exact ⟨o, s1, h0, h1, h3⟩
  unfold AOpsD at h
  cases hg : o.guard with
  | none =>
   rw [hg] at h
   obtain ⟨s1, h1, h2⟩ := h.ok
   exact go s1 (by unfold GStep; rw [hg]; exact h1) h2
  | some q =>
   obtain ⟨j, want⟩ := q
   rw [hg] at h
   simp only [zFc] at h
   split at h
   ·rename_i d hd
    unfold zHN at h
    split at h
    ·rename_i b hb
     by_cases hw : b = want
     ·obtain ⟨s1, h1, h2⟩ := (h.1 hw).ok
      exact go s1 (by unfold GStep; rw [hg]; exact ⟨d, hd, .inl ⟨b, hb, .inl ⟨hw, h1⟩⟩⟩) h2
     ·have hw' : b = !want := by cases b <;> cases want <;> simp_all
      exact go _ (by unfold GStep; rw [hg]; exact ⟨d, hd, .inl ⟨b, hb, .inr ⟨hw', rfl⟩⟩⟩) (h.2 hw')
    ·rename_i hb
     exact go _ (by unfold GStep; rw [hg]; exact ⟨d, hd, .inr ⟨hb, rfl⟩⟩) h
    ·exact h.elim
   ·exact h.elim
theorem zAW {P : Program} (B : List Nat) (hm : P.follows .mixedOrders = true) {id : Nat} {ops : Array Oper} {Q : Exit → AState → Prop} {s : AState} {n : Nat} (hn : s.n = n) (hok : regOk B ops n = true)
  (h : AOpsD P B ops (Q .normal) ops.toList s.fresh) : AWp P (.region id ops true) Q s := fun F g a w hs => by
 obtain ⟨s', h1, h2⟩ := AOpsD.chain ops.toList 0 s.fresh (fun j => by simp) h
 refine wp_region_any hm (any_wp (F := F) (n := n) hok ops.size _ s.fresh s' g a _ (by simp) ?_ ?_ ?_ hs.fresh.drew (fun _ _ _ _ _ _ t hl => by cases hl) hn (fun g a w hs' => ⟨g, s', hs', h2⟩))
 ·exact Nat.le_trans (List.length_filter_le _ _) (by simp)
 ·intro j o hj hl
  have : (Array.replicate ops.size false).getD j true = false := by
   have := lt_of_getElem? hj
   rw [Array.getD_eq_getD_getElem?, Array.getElem?_replicate, if_pos this]; rfl
  rw [this] at hl; cases hl
 ·have hall : ((List.range ops.size).filter fun i => !(Array.replicate ops.size false).getD i true) = List.range ops.size := by
   rw [List.filter_eq_self]
   intro i hi
   rw [List.mem_range] at hi
   rw [Array.getD_eq_getD_getElem?, Array.getElem?_replicate, if_pos hi]; rfl
  rw [hall, List.range_eq_range']
  simpa using h1
def AW (P : Program) : Code → (Exit → AState → Prop) → AState → Prop
 | .skip, Q, s => Q .normal s
 | .label _, Q, s => Q .normal s
 | .region _ ops false, Q, s => AOps P ops (Q .normal) ops.toList s.fresh
 | .region _ ops true, Q, s => regOk [] ops s.n = true ∧ AOpsD P [] ops (Q .normal) ops.toList s.fresh
 | .seq x y, Q, s => AW P x (seqK (AWp P y Q) Q) s
 | .cond c x y, Q, s => match s.look c with
  | .bool b => (b = true → AW P x Q s) ∧ (b = false → AW P y Q s)
  | _ => False
 | .block id c, Q, s => AW P c (blockK id Q) s
 | .exit id, Q, s => Q (.exit id) s
 | .ret, Q, s => Q .ret s
 | c, Q, s => AWp P c Q s
theorem AW.sound {P : Program} (hm : P.follows .mixedOrders = true) : ∀ (c : Code) (Q : Exit → AState → Prop) (s : AState), AW P c Q s → AWp P c Q s := by
 intro c
 induction c with
 | skip => exact fun Q s h F g a w hs => wp_skip ⟨g, s, hs, h⟩
 | label l => exact fun Q s h F g a w hs => wp_label ⟨g, s, hs, h⟩
 | region id ops draw =>
  intro Q s h
  cases draw with
  | false => exact awp_region h
  | true => exact zAW [] hm rfl h.1 h.2
 | seq x y ihx ihy =>
  intro Q s h
  exact zAM (ihx _ _ h)
 | cond c x y ihx ihy =>
  intro Q s h
  unfold AW at h
  split at h
  ·rename_i b hb
   exact awp_cond hb (fun e => ihx _ _ (h.1 e)) (fun e => ihy _ _ (h.2 e))
  ·exact h.elim
 | block id c ih => exact fun Q s h => zAU (ih _ _ h)
 | exit id => exact fun Q s h F g a w hs => wp_exit ⟨g, s, hs, h⟩
 | ret => exact fun Q s h F g a w hs => wp_ret ⟨g, s, hs, h⟩
 | _ => exact fun Q s h => h
section
variable (s : AState) (d t u b o : Nat) (x : AV) (blk : List AV)
@[simp] theorem get_start (n base : Nat) (args : List AV) (bs : List (List AV)) : (start n base args bs).get t = args.getD t (.tup []) := rfl
@[simp] theorem n_start (n base : Nat) (args : List AV) (bs : List (List AV)) : (start n base args bs).n = n := rfl
@[simp] theorem base_start (n base : Nat) (args : List AV) (bs : List (List AV)) : (start n base args bs).base = base := rfl
@[simp] theorem blocks_start (n base : Nat) (args : List AV) (bs : List (List AV)) : (start n base args bs).blocks = bs := rfl
@[simp] theorem loans_start (n base : Nat) (args : List AV) (bs : List (List AV)) : (start n base args bs).loans t = none := rfl
@[simp] theorem get_mkS (n base : Nat) (live : List (Nat × AV)) (bs : List (List AV)) : (mkS n base live bs).get t = lookD live t := rfl
@[simp] theorem n_mkS (n base : Nat) (live : List (Nat × AV)) (bs : List (List AV)) : (mkS n base live bs).n = n := rfl
@[simp] theorem base_mkS (n base : Nat) (live : List (Nat × AV)) (bs : List (List AV)) : (mkS n base live bs).base = base := rfl
@[simp] theorem blocks_mkS (n base : Nat) (live : List (Nat × AV)) (bs : List (List AV)) : (mkS n base live bs).blocks = bs := rfl
@[simp] theorem loans_mkS (n base : Nat) (live : List (Nat × AV)) (bs : List (List AV)) : (mkS n base live bs).loans t = none := rfl
@[simp] theorem get_fresh : s.fresh.get t = s.get t := rfl
@[simp] theorem n_fresh : s.fresh.n = s.n := rfl
@[simp] theorem base_fresh : s.fresh.base = s.base := rfl
@[simp] theorem blocks_fresh : s.fresh.blocks = s.blocks := rfl
@[simp] theorem loans_fresh : s.fresh.loans t = none := rfl
@[simp] theorem get_put : (s.put d x).get t = if t = d then (if d < s.n then x else s.get t) else s.get t := by
 unfold AState.put; split
 ·rename_i h; simp only [AState.get]
 ·rename_i h; split <;> rfl
@[simp] theorem n_put : (s.put d x).n = s.n := put_n s d x
@[simp] theorem base_put : (s.put d x).base = s.base := put_base s d x
@[simp] theorem blocks_put : (s.put d x).blocks = s.blocks := zEc s d x
@[simp] theorem loans_put : (s.put d x).loans t = if d < s.n then (if t = d then none else if s.loans t = some (.tmp d) then none else s.loans t) else s.loans t := by
 unfold AState.put; split <;> rfl
@[simp] theorem get_setCell : (s.setCell b o x).get t = s.get t := rfl
@[simp] theorem n_setCell : (s.setCell b o x).n = s.n := rfl
@[simp] theorem base_setCell : (s.setCell b o x).base = s.base := rfl
@[simp] theorem blocks_setCell : (s.setCell b o x).blocks = s.blocks.set b ((s.blocks.getD b []).set o x) := rfl
@[simp] theorem loans_setCell : (s.setCell b o x).loans t = if s.loans t = some (.cell b o) then none else s.loans t := rfl
@[simp] theorem get_push : (s.push blk).get t = s.get t := rfl
@[simp] theorem n_push : (s.push blk).n = s.n := rfl
@[simp] theorem base_push : (s.push blk).base = s.base := rfl
@[simp] theorem blocks_push : (s.push blk).blocks = s.blocks ++ [blk] := rfl
@[simp] theorem loans_push : (s.push blk).loans t = s.loans t := rfl
@[simp] theorem get_degT : (s.degrade (.tmp u)).get t = if t = u then (s.get u).copy else s.get t := rfl
@[simp] theorem n_deg (p : Place) : (s.degrade p).n = s.n := by cases p <;> rfl
@[simp] theorem base_deg (p : Place) : (s.degrade p).base = s.base := by cases p <;> rfl
@[simp] theorem blocks_degT : (s.degrade (.tmp u)).blocks = s.blocks := rfl
@[simp] theorem loans_deg (p : Place) : (s.degrade p).loans t = s.loans t := by cases p <;> rfl
@[simp] theorem get_degC : (s.degrade (.cell b o)).get t = s.get t := rfl
@[simp] theorem blocks_degC : (s.degrade (.cell b o)).blocks = s.blocks.set b ((s.blocks.getD b []).set o (((s.blocks.getD b []).getD o .top).copy)) := rfl
end
def AState.lend (s : AState) (d : Nat) (p : Place) : AState := { s with loans := fun t => if t = d then some p else s.loans t }
section
variable (s : AState) (d t : Nat) (p : Place) (x : AV)
@[simp] theorem get_lend : (s.lend d p).get t = s.get t := rfl
@[simp] theorem n_lend : (s.lend d p).n = s.n := rfl
@[simp] theorem base_lend : (s.lend d p).base = s.base := rfl
@[simp] theorem blocks_lend : (s.lend d p).blocks = s.blocks := rfl
@[simp] theorem loans_lend : (s.lend d p).loans t = if t = d then some p else s.loans t := rfl
@[simp] theorem putL_none : s.putL d x none = s.put d x := rfl
@[simp] theorem putL_some : s.putL d x (some p) = if p = .tmp d ∨ s.n ≤ d then s.put d x else (s.put d x).lend d p := rfl
end
def AState.store' (s : AState) (bs : List (List AV)) : AState := { s with blocks := bs, loans := fun t => match s.loans t with | some (.tmp u) => some (.tmp u) | _ => none }
section
variable (s : AState) (t : Nat) (bs : List (List AV))
@[simp] theorem called_eq (d : Option Nat) (res : AV) : s.called d res bs = (s.store' bs).putO d res := rfl
@[simp] theorem get_store' : (s.store' bs).get t = s.get t := rfl
@[simp] theorem n_store' : (s.store' bs).n = s.n := rfl
@[simp] theorem base_store' : (s.store' bs).base = s.base := rfl
@[simp] theorem blocks_store' : (s.store' bs).blocks = bs := rfl
@[simp] theorem loans_store' : (s.store' bs).loans t = match s.loans t with | some (.tmp u) => some (.tmp u) | _ => none := rfl
end
@[simp] theorem AOps_nil (P : Program) (ops : Array Oper) (K : AState → Prop) (s : AState) : AOps P ops K [] s = K s := Eq.trans rfl rfl
@[simp] theorem AOps_cons (P : Program) (ops : Array Oper) (K : AState → Prop) (o : Oper) (l : List Oper) (s : AState) : AOps P ops K (o :: l) s = match o.guard with
  | none => AStep P o s (AOps P ops K l)
  | some (j, want) => zFc ((ops[j]?).bind (·.dst)) fun d => zHN (s.get d) want (AStep P o s (AOps P ops K l)) (AOps P ops K l (s.putO o.dst (.tup []))) := Eq.trans rfl rfl
@[simp] theorem AOpsD_nil (P : Program) (B : List Nat) (ops : Array Oper) (K : AState → Prop) (s : AState) : AOpsD P B ops K [] s = K s := Eq.trans rfl rfl
@[simp] theorem AOpsD_cons (P : Program) (B : List Nat) (ops : Array Oper) (K : AState → Prop) (o : Oper) (l : List Oper) (s : AState) : AOpsD P B ops K (o :: l) s = match o.guard with
  | none => AStepD P B o s (AOpsD P B ops K l)
  | some (j, want) => zFc ((ops[j]?).bind (·.dst)) fun d => zHN (s.get d) want (AStepD P B o s (AOpsD P B ops K l)) (AOpsD P B ops K l (s.putO o.dst (.tup []))) := Eq.trans rfl rfl
attribute [simp] AStep AStepD zHc zE1 zIQ zGk zHw pickV isBool resNew zHB resBox bldT markB isAggB loadV zGj zGT zEo elems zEn zFX zFB
 cmpV intV strV binV resBin resUn zIS zG8 zG9 resFunc zI4 oldElems zF8 resMM resLen bound zG7 zFu fillA placeOf zHA zEL zIR isR zDi zGy eqTy eqFs
 AState.at AState.ev AState.owner AState.takeV AState.takeS AState.putR AState.putO AState.look AState.loanOf AState.setCells AV.ofConst AV.ofConst1 AV.plain AV.inert AV.flat AV.flatL AV.under AV.underL
 seqK blockK Ret absRes1 zHV oneOf lookD endS Gd
def notLoop : Code → Bool
 | .loop _ => false
 | _ => true
theorem AW.step {P : Program} (hm : P.follows .mixedOrders = true) {c : Code} {Q : Exit → AState → Prop} {s : AState} (hc : notLoop c = true) (h : AW P c Q s) : AWp P c Q s := AW.sound hm c Q s h
attribute [simp] AW
theorem zB2 {P : Program} {c : Code} {Q : Exit → AState → Prop} {s : AState} {α : Type} (I : α → AState) (Inv : α → Prop) (μ : α → Nat) (x0 : α) (hi : Inv x0) (h0 : s.Le (I x0))
  (round : ∀ x, Inv x → AWp P c (seqK (fun s' => ∃ y, s'.Le (I y) ∧ Inv y ∧ μ y < μ x) Q) (I x)) : AWp P (.loop c) Q s := by
 refine awp_loop (fun x : { x : α // Inv x } => I x.1) (fun x => μ x.1) ⟨x0, hi⟩ h0 ?_
 rintro ⟨x, hx⟩
 refine zI3 (round x hx) fun e s' h => ?_
 cases e with
 | normal => obtain ⟨y, h1, h2, h3⟩ := h; exact ⟨⟨y, h2⟩, h1, h3⟩
 | _ => exact h
def PStep (P : Program) (o : Oper) (s s' : AState) : Prop :=
 o.guard = none ∧ ∃ c x f first captured res bs', o.op = .call c ∧ c.callee = .value x ∧ s.look x = .fn (.func f) first captured ∧ Raw P f (zDi s first captured c.args) s.blocks res bs' ∧ res.owns = false ∧ s' = s.called o.dst res bs'
def ChainX (P : Program) (B : List Nat) (ops : Array Oper) (pins : List Nat) : List Nat → AState → AState → Prop
 | [], s, s' => s' = s
 | i :: l, s, s' => ∃ o s1, ops[i]? = some o ∧ ((pins.contains i = false ∧ GStep P B ops o s s1) ∨ (pins.contains i = true ∧ PStep P o s s1)) ∧ ChainX P B ops pins l s1 s'
theorem PStep.frame {P : Program} {o : Oper} {s s' : AState} (h : PStep P o s s') : s'.n = s.n ∧ ∀ t u, s'.loans t = some (.tmp u) → s.loans t = some (.tmp u) ∨ (zEz o.op = true ∧ u ∈ zD4 o.op) := by
 obtain ⟨_, c, x, f, first, captured, res, bs', _, _, _, _, _, rfl⟩ := h
 have hl : ∀ t u, (s.store' bs').loans t = some (.tmp u) → s.loans t = some (.tmp u) := fun t u h => by
  rw [loans_store'] at h
  split at h
  ·rename_i v hv; rw [hv]; exact h
  ·cases h
 rw [called_eq]
 cases hd : o.dst with
 | none => exact ⟨rfl, fun t u h => .inl (hl t u h)⟩
 | some d =>
  refine ⟨by simp, fun t u h => .inl ?_⟩
  simp only [AState.putO, loans_put] at h
  split at h
  ·split at h
   ·cases h
   ·split at h
    ·cases h
    ·exact hl t u h
  ·exact hl t u h
def CallX (P : Program) (f : FuncId) (args : List AV) (s : AState) (dst : Option Nat) (K : AState → Prop) : Prop :=
 ∃ res bs', Raw P f args s.blocks res bs' ∧ res.owns = false ∧ K (s.called dst res bs')
@[congr] theorem CallX_congr {P : Program} {f : FuncId} {args args' : List AV} {s : AState} {dst : Option Nat} {K : AState → Prop} (h : args = args') : CallX P f args s dst K = CallX P f args' s dst K := by rw [h]
def AStepX (P : Program) (o : Oper) (s : AState) (K : AState → Prop) : Prop :=
 match o.guard, o.op with
 | none, .call c => match c.callee with
  | .value x => match s.look x with
   | .fn (.func f) first captured => CallX P f (zDi s first captured c.args) s o.dst K
   | _ => False
  | _ => False
 | _, _ => False
@[congr] theorem AStepX_congr {P : Program} {o : Oper} {s s' : AState} {K : AState → Prop} (h : s = s') : AStepX P o s K = AStepX P o s' K := by rw [h]
theorem AStepX.ok {P : Program} {o : Oper} {s : AState} {K : AState → Prop} (h : AStepX P o s K) : ∃ s', PStep P o s s' ∧ K s' := by
 unfold AStepX at h
 split at h
 ·rename_i c hg ho
  split at h
  ·rename_i x hc
   split at h
   ·rename_i f first captured hx
    obtain ⟨res, bs', h1, h2, h3⟩ := h
    exact ⟨_, ⟨hg, c, x, f, first, captured, res, bs', ho, hc, hx, h1, h2, rfl⟩, h3⟩
   ·exact h.elim
  ·exact h.elim
 ·exact h.elim
def AOpsX (P : Program) (B : List Nat) (ops : Array Oper) (pins : List Nat) (K : AState → Prop) : List Oper → Nat → AState → Prop
 | [], _, s => K s
 | o :: l, k, s => if pins.contains k then AStepX P o s (AOpsX P B ops pins K l (k + 1)) else match o.guard with
  | none => AStepD P B o s (AOpsX P B ops pins K l (k + 1))
  | some (j, want) => zFc ((ops[j]?).bind (·.dst)) fun d => zHN (s.get d) want (AStepD P B o s (AOpsX P B ops pins K l (k + 1))) (AOpsX P B ops pins K l (k + 1) (s.putO o.dst (.tup [])))
@[congr] theorem AOpsX_congr {P : Program} {B : List Nat} {ops : Array Oper} {pins : List Nat} {K : AState → Prop} {l : List Oper} {k k' : Nat} {s s' : AState} (hk : k = k') (h : s = s') : AOpsX P B ops pins K l k s = AOpsX P B ops pins K l k' s' := by rw [h, hk]
theorem AOpsX.chain {P : Program} {B : List Nat} {ops : Array Oper} {pins : List Nat} {K : AState → Prop} : ∀ (l : List Oper) (k : Nat) (s : AState), (∀ j, l[j]? = ops[k + j]?) → AOpsX P B ops pins K l k s →
  ∃ s', ChainX P B ops pins (List.range' k l.length) s s' ∧ K s' := by
 intro l
 induction l with
 | nil => exact fun k s _ h => ⟨s, rfl, h⟩
 | cons o l ih =>
  intro k s hl h
  have h0 : ops[k]? = some o := by simpa using (hl 0).symm
  have hl' : ∀ j, l[j]? = ops[k + 1 + j]? := fun j => by have := hl (j + 1); simpa [Nat.add_assoc, Nat.add_comm 1 j] using this
  unfold AOpsX at h
  cases hp : pins.contains k with
  | true =>
   rw [if_pos hp] at h
   obtain ⟨s1, h1, h2⟩ := h.ok
   obtain ⟨s', h3, h4⟩ := ih (k + 1) s1 hl' h2
   refine ⟨s', ?_, h4⟩
   rw [List.length_cons, List.range'_succ]
   exact ⟨o, s1, h0, .inr ⟨hp, h1⟩, h3⟩
  | false =>
  rw [if_neg (by rw [hp]; simp)] at h
  have go : ∀ s1, GStep P B ops o s s1 → AOpsX P B ops pins K l (k + 1) s1 → ∃ s', ChainX P B ops pins (List.range' k (o :: l).length) s s' ∧ K s' := fun s1 h1 h2 => by
   obtain ⟨s', h3, h4⟩ := ih (k + 1) s1 hl' h2
   refine ⟨s', ?_, h4⟩
   rw [List.length_cons, List.range'_succ]
   exact ⟨o, s1, h0, .inl ⟨hp, h1⟩, h3⟩
  cases hg : o.guard with
  | none =>
   rw [hg] at h
   obtain ⟨s1, h1, h2⟩ := AStepD.ok h
   exact go s1 (by unfold GStep; rw [hg]; exact h1) h2
  | some q =>
   obtain ⟨j, want⟩ := q
   rw [hg] at h
   simp only [zFc] at h
   split at h
   ·rename_i d hd
    unfold zHN at h
    split at h
    ·rename_i b hb
     by_cases hw : b = want
     ·obtain ⟨s1, h1, h2⟩ := (h.1 hw).ok
      exact go s1 (by unfold GStep; rw [hg]; exact ⟨d, hd, .inl ⟨b, hb, .inl ⟨hw, h1⟩⟩⟩) h2
     ·have hw' : b = !want := by clear h; revert hw; cases b <;> cases want <;> decide
      exact go _ (by unfold GStep; rw [hg]; exact ⟨d, hd, .inl ⟨b, hb, .inr ⟨hw', rfl⟩⟩⟩) (h.2 hw')
    ·rename_i hb
     exact go _ (by unfold GStep; rw [hg]; exact ⟨d, hd, .inr ⟨hb, rfl⟩⟩) h
    ·exact h.elim
   ·exact h.elim
@[simp] theorem AOpsX_nil (P : Program) (B : List Nat) (ops : Array Oper) (pins : List Nat) (K : AState → Prop) (k : Nat) (s : AState) : AOpsX P B ops pins K [] k s = K s := Eq.trans rfl rfl
@[simp] theorem AOpsX_cons (P : Program) (B : List Nat) (ops : Array Oper) (pins : List Nat) (K : AState → Prop) (o : Oper) (l : List Oper) (k : Nat) (s : AState) : AOpsX P B ops pins K (o :: l) k s = if pins.contains k then AStepX P o s (AOpsX P B ops pins K l (k + 1)) else match o.guard with
  | none => AStepD P B o s (AOpsX P B ops pins K l (k + 1))
  | some (j, want) => zFc ((ops[j]?).bind (·.dst)) fun d => zHN (s.get d) want (AStepD P B o s (AOpsX P B ops pins K l (k + 1))) (AOpsX P B ops pins K l (k + 1) (s.putO o.dst (.tup []))) := Eq.trans rfl rfl
attribute [simp] AStepX
@[simp] def leTmps (s : AState) : List (Nat × AV) → Prop
 | [] => True
 | (t, x) :: l => leAV (s.get t) x ∧ leTmps s l
@[simp] def underTmps (m : Nat) : List (Nat × AV) → Bool
 | [] => true
 | (_, x) :: l => x.under m && underTmps m l
@[simp] def underBlocks (m : Nat) : List (List AV) → Bool
 | [] => true
 | b :: l => AV.underL m b && underBlocks m l
theorem leTmps.get {s : AState} : ∀ {l : List (Nat × AV)}, leTmps s l → ∀ q, q ∈ l → leAV (s.get q.1) q.2
 | [], _, q, hq => by cases hq
 | (t, x) :: l, h, q, hq => by
  rcases List.mem_cons.1 hq with rfl | hq
  ·exact h.1
  ·exact leTmps.get h.2 q hq
theorem zHO {m : Nat} : ∀ {l : List (Nat × AV)}, underTmps m l = true → ∀ q, q ∈ l → q.2.under m = true
 | [], _, q, hq => by cases hq
 | (t, x) :: l, h, q, hq => by
  simp only [underTmps, Bool.and_eq_true] at h
  rcases List.mem_cons.1 hq with rfl | hq
  ·exact h.1
  ·exact zHO h.2 q hq
theorem zEt {m : Nat} : ∀ {l : List (List AV)}, underBlocks m l = true → ∀ b, b ∈ l → AV.underL m b = true
 | [], _, b, hb => by cases hb
 | x :: l, h, b, hb => by
  simp only [underBlocks, Bool.and_eq_true] at h
  rcases List.mem_cons.1 hb with rfl | hb
  ·exact h.1
  ·exact zEt h.2 b hb
def LeB (s : AState) (n base : Nat) (live : List (Nat × AV)) (blocks : List (List AV)) : Prop :=
 s.n = n ∧ s.base = base ∧ base ≤ blocks.length ∧ leTmps s live ∧ leBlocks s.blocks blocks ∧
  (s.blocks.length = blocks.length ∨ (underTmps blocks.length live = true ∧ underBlocks blocks.length blocks = true))
attribute [simp] LeB
theorem zBS {s : AState} {n base : Nat} {live : List (Nat × AV)} {blocks : List (List AV)} (h : LeB s n base live blocks) : s.Le (mkS n base live blocks) := by
 obtain ⟨h1, h2, h3, h4, h5, h6⟩ := h
 refine Le.lit h1 h2 h3 h4.get h5 ?_
 rcases h6 with h6 | ⟨h6, h7⟩
 ·exact .inl h6
 ·exact .inr ⟨zHO h6, zEt h7⟩
def cutK (n base : Nat) (live : List (Nat × AV)) (blocks : List (List AV)) (Q : Exit → AState → Prop) : Exit → AState → Prop
 | .normal, s => LeB s n base live blocks
 | e, s => Q e s
attribute [simp] cutK
theorem cut {P : Program} {x y : Code} {Q : Exit → AState → Prop} {s : AState} (n base : Nat) (live : List (Nat × AV)) (blocks : List (List AV)) (h1 : AWp P x (cutK n base live blocks Q) s) (h2 : AWp P y Q (mkS n base live blocks)) :
  AWp P (.seq x y) Q s :=
 zAM (zI3 h1 fun e s' hq => by
  cases e with
  | normal => exact awp_le h2 (zBS hq)
  | _ => exact hq)
theorem last {P : Program} {x : Code} {Q : Exit → AState → Prop} {s : AState} (n base : Nat) (live : List (Nat × AV)) (blocks : List (List AV)) (h1 : AWp P x (cutK n base live blocks Q) s)
  (h2 : ∀ s', s'.Le (mkS n base live blocks) → Q .normal s') : AWp P x Q s :=
 zI3 h1 fun e s' hq => by
  cases e with
  | normal => exact h2 s' (zBS hq)
  | _ => exact hq
theorem zBE {P : Program} {c : Operand} {x y : Code} {Q : Exit → AState → Prop} {s : AState} {b : Bool} (hc : s.look c = .bool b) (hb : b = true) (h : AWp P x Q s) : AWp P (.cond c x y) Q s :=
 awp_cond hc (fun _ => h) (fun e => by rw [hb] at e; cases e)
theorem zGH {P : Program} {c : Operand} {x y : Code} {Q : Exit → AState → Prop} {s : AState} {b : Bool} (hc : s.look c = .bool b) (hb : b = false) (h : AWp P y Q s) : AWp P (.cond c x y) Q s :=
 awp_cond hc (fun e => by rw [hb] at e; cases e) (fun _ => h)
theorem spc {α : Type} {P : Program} {c : Operand} {x y : Code} {Q : Exit → AState → Prop} {s : AState} {b : Bool} {u v : Option α} {r : α} (h : (if b = true then u else v) = some r) (hc : s.look c = .bool b) (h1 : b = true → u = some r → AWp P x Q s) (h2 : b = false → v = some r → AWp P y Q s) : AWp P (.cond c x y) Q s := by
 cases b with
 | true => exact zBE hc rfl (h1 rfl h)
 | false => exact zGH hc rfl (h2 rfl h)
theorem zD3 (t : Nat) {P : Program} {c : Code} {Q : Exit → AState → Prop} {s : AState} {l : List (List AV)} (ht : elems (s.get t) = some l) (h : l.length ≤ 281474976710656 → AWp P c Q s) : AWp P c Q s := fun F g a w hs => by
 obtain ⟨_, _, _, _, hb, _⟩ := zF9 (hs.tmps t).1 ht
 exact h hb F g a w hs
theorem rep_short {imm : Addr → Option Value} {σ : List Nat} {l : List UInt8} {v : Value} (h : Rep imm σ (.str l) v) : l.length ≤ 1152921504606846976 := by cases h; assumption
theorem zGX (t : Nat) {P : Program} {c : Code} {Q : Exit → AState → Prop} {s : AState} {l : List UInt8} (ht : s.get t = .str l) (h : l.length ≤ 1152921504606846976 → AWp P c Q s) : AWp P c Q s := fun F g a w hs => by
 have := (hs.tmps t).1
 rw [show s.tmps t = .str l from ht] at this
 exact h (rep_short this) F g a w hs
theorem Sim.cellRep {F : Fx} {g : Gh} {s : AState} {a : Act} {w : World} (h : Sim F g s a w) {b o : Nat} {blk : List AV} {x : AV} (hb : s.blocks[b]? = some blk) (hx : blk[o]? = some x) : ∃ v, Rep g.imm g.σ x v := by
 have hlt : b < g.σ.length := by rw [h.sto.len]; exact (List.getElem?_eq_some_iff.1 hb).1
 obtain ⟨c, ty, _, _, h3⟩ := h.sto.blk b blk _ hb (List.getElem?_eq_getElem hlt)
 exact ⟨_, (h3 o x hx).2.1⟩
theorem zCJ (b o : Nat) {P : Program} {c : Code} {Q : Exit → AState → Prop} {s : AState} {blk : List AV} {x : AV} {l : List (List AV)} (hb : s.blocks[b]? = some blk) (hx : blk[o]? = some x) (hl : elems x = some l)
  (h : l.length ≤ 281474976710656 → AWp P c Q s) : AWp P c Q s := fun F g a w hs => by
 obtain ⟨v, hv⟩ := hs.cellRep hb hx
 obtain ⟨_, _, _, _, h1, _⟩ := zF9 hv hl
 exact h h1 F g a w hs
theorem bs {α β : Type} {x : Option α} {f : α → Option β} {r : β} (h : x.bind f = some r) : ∃ v, x = some v ∧ f v = some r := by
 cases x with
 | none => cases h
 | some v => exact ⟨v, rfl, h⟩
theorem sp {α : Type} {c : Bool} {x y : Option α} {r : α} (h : (if c = true then x else y) = some r) : (c = true ∧ x = some r) ∨ (c = false ∧ y = some r) := by
 cases c with
 | true => exact .inl ⟨rfl, h⟩
 | false => exact .inr ⟨rfl, h⟩
theorem tf (c : Bool) : c = true ∨ c = false := by cases c <;> simp
theorem ltT {a b : Int} (h : ltI a b = true) : a < b := of_decide_eq_true h
theorem ltF {a b : Int} (h : ltI a b = false) : b ≤ a := by have := of_decide_eq_false h; omega
theorem leT {a b : Int} (h : leI a b = true) : a ≤ b := of_decide_eq_true h
theorem leF {a b : Int} (h : leI a b = false) : b < a := by have := of_decide_eq_false h; omega
theorem eqT {a b : Int} (h : eqI a b = true) : a = b := of_decide_eq_true h
theorem eqF {a b : Int} (h : eqI a b = false) : a ≠ b := of_decide_eq_false h
theorem notT {b : Bool} (h : (!b) = true) : b = false := by cases b <;> simp_all
theorem notF {b : Bool} (h : (!b) = false) : b = true := by cases b <;> simp_all
theorem andT {a b : Bool} (h : (a && b) = true) : a = true ∧ b = true := by cases a <;> simp_all
theorem orF {a b : Bool} (h : (a || b) = false) : a = false ∧ b = false := by cases a <;> simp_all
@[simp] theorem unU_nil : unU [] = [] := rfl
@[simp] theorem unU_cons (k : IntKind) (n : Int) (l : List (List AV)) : unU ([.int k n] :: l) = UInt8.ofNat n.toNat :: unU l := rfl
@[simp] theorem u8max {n : Int} (h : Rng .u8 n) : max n 0 % 256 = n := by
 have h1 : 0 ≤ n ∧ n ≤ 255 := h
 omega
theorem oi {α : Type} {a b : α} (h : some a = some b) : a = b := Option.some.inj h
def bytesC (l : List UInt8) : Option (List UInt8) := if l.length ≤ 281474976710656 then some l else none
theorem bytesC_ok {l r : List UInt8} (h : bytesC l = some r) : r.length ≤ 281474976710656 ∧ l = r := by
 unfold bytesC at h
 split at h
 ·cases h; exact ⟨by assumption, rfl⟩
 ·cases h
def chk (k : IntKind) (n : Int) : Option Int := if inR k n then some n else none
theorem zFi {k : IntKind} {n r : Int} (h : chk k n = some r) : Rng k r ∧ n = r := by
 unfold chk at h; split at h
 ·cases h; exact ⟨‹_›, rfl⟩
 ·cases h
def idx {α : Type} (l : List α) (n : Int) : Option α := if 0 ≤ n then l[n.toNat]? else none
theorem litIdx {α β : Type} {l : List α} {i : Nat} {x : α} (f : α → β) (h : l[i]? = some x) : (l.map f)[i]? = some (f x) := by rw [List.getElem?_map, h]; rfl
theorem idxp_ok {α : Type} {l : List α} {n : Nat} {x : α} (h : idx l ((n : Int) - 1) = some x) : (1 ≤ (n : Int)) ∧ l[n - 1]? = some x := by
 unfold idx at h
 split at h
 ·rename_i h0
  refine ⟨by omega, ?_⟩
  rw [show ((n : Int) - 1).toNat = n - 1 by omega] at h
  exact h
 ·cases h
theorem idx_ok {α : Type} {l : List α} {n : Int} {x : α} (h : idx l n = some x) : 0 ≤ n ∧ l[n.toNat]? = some x := by
 unfold idx at h; split at h
 ·exact ⟨‹_›, h⟩
 ·cases h
def app {α : Type} (b : Nat) (x y : List α) : Option (List α) := if 0 < b ∧ (x.length + y.length) * b ≤ 140737488355328 then some (x ++ y) else none
theorem app_ok {α : Type} {b : Nat} {x y r : List α} (h : app b x y = some r) : Fits b (x.length + y.length) ∧ r = x ++ y := by
 unfold app at h; split at h
 ·cases h; exact ⟨‹_›, rfl⟩
 ·cases h
theorem zD6 {α : Type} {a v : α} (h : some a = some v) : v = a ∧ True := ⟨(Option.some.inj h).symm, trivial⟩
@[simp] theorem nn1 (n : Nat) : (0 : Int) ≤ (n : Int) + 1 := by omega
@[simp] theorem nn2 (n : Nat) : (0 : Int) ≤ (n : Int) + 1 + 1 := by omega
@[simp] theorem nn3 (n : Nat) : (0 : Int) ≤ (n : Int) + 2 := by omega
def cat (x y : List UInt8) : Option (List UInt8) := if x.length + y.length ≤ 1152921504606846976 then some (x ++ y) else none
theorem zAf {x y r : List UInt8} (h : cat x y = some r) : Short x y ∧ x ++ y = r := by
 unfold cat at h; split at h
 ·cases h; exact ⟨‹_›, rfl⟩
 ·cases h
def subC {α : Type} (l : List α) (a b : Int) : Option (List α) := if 0 ≤ a ∧ a ≤ b ∧ b ≤ l.length then some (sub l a b) else none
theorem zEW {α : Type} {l : List α} {a b : Int} {r : List α} (h : subC l a b = some r) : InB a b l.length ∧ sub l a b = r := by
 unfold subC at h; split at h
 ·cases h; exact ⟨‹_›, rfl⟩
 ·cases h
attribute [simp] inR Value.cells
@[simp] theorem ba_size (a : Array UInt8) : (ByteArray.mk a).size = a.size := rfl
theorem zI8 {α : Type} {n : Nat} {f : α → List AV} (hf : ∀ x, (f x).length = n) (l : List α) : EL n (l.map f) := fun e h => by
 obtain ⟨x, _, rfl⟩ := List.mem_map.1 h; exact hf x
theorem zGr {α : Type} {n : Nat} {f : α → List AV} (hf : ∀ x, (f x).length = n ∧ (f x).all AV.inert = true) (l : List α) : zEl n (l.map f) := fun e h => by
 obtain ⟨x, _, rfl⟩ := List.mem_map.1 h; exact hf x
@[simp] theorem okE_nil (n : Nat) : zEl n [] := fun e h => by cases h
@[simp] theorem okE_cons (n : Nat) (e : List AV) (l : List (List AV)) : zEl n (e :: l) ↔ (e.length = n ∧ e.all AV.inert = true) ∧ zEl n l := by
 unfold zEl; simp
@[simp] theorem sub_map {α β : Type} (f : α → β) (l : List α) (a b : Int) : sub (l.map f) a b = (sub l a b).map f := by
 unfold sub; simp
@[simp] def cI (k : IntKind) (n : Int) : List AV := [.int k n]
@[simp] def cB (b : Bool) : List AV := [.bool b]
@[simp] def cS (l : List UInt8) : List AV := [.str l]
@[simp] def cL {α : Type} (f : α → List AV) (l : List α) : List AV := [.sl (l.map f)]
@[simp] theorem okE_cI (k : IntKind) (l : List Int) : zEl 1 (l.map (cI k)) := zGr (fun x => by simp) l
@[simp] theorem okE_cB (l : List Bool) : zEl 1 (l.map cB) := zGr (fun x => by simp) l
@[simp] theorem okE_cS (l : List (List UInt8)) : zEl 1 (l.map cS) := zGr (fun x => by simp) l
@[simp] theorem okE_cU (l : List UInt8) : zEl 1 (l.map cU) := zGr (fun x => by simp) l
@[simp] theorem okE_cL {α : Type} (f : α → List AV) (l : List (List α)) : zEl 1 (l.map (cL f)) := zGr (fun x => by simp) l
@[simp] theorem EL_cI (k : IntKind) (l : List Int) : EL 1 (l.map (cI k)) := zI8 (fun x => by simp) l
@[simp] theorem EL_cB (l : List Bool) : EL 1 (l.map cB) := zI8 (fun x => by simp) l
@[simp] theorem EL_cS (l : List (List UInt8)) : EL 1 (l.map cS) := zI8 (fun x => by simp) l
@[simp] theorem EL_cU (l : List UInt8) : EL 1 (l.map cU) := zI8 (fun x => by simp) l
@[simp] theorem EL_cL {α : Type} (f : α → List AV) (l : List (List α)) : EL 1 (l.map (cL f)) := zI8 (fun x => by simp) l
@[simp] theorem byteElems_map (l : List UInt8) : zDa l = l.map cU := rfl
theorem zAF {P : Program} {Q : Exit → AState → Prop} {s : AState} (h : Q .normal s) : AWp P .skip Q s := fun F g a w hs => wp_skip ⟨g, s, hs, h⟩
theorem zBR {P : Program} {id : Nat} {Q : Exit → AState → Prop} {s : AState} (h : Q (.exit id) s) : AWp P (.exit id) Q s := fun F g a w hs => wp_exit ⟨g, s, hs, h⟩
theorem zAB {P : Program} {Q : Exit → AState → Prop} {s : AState} (h : Q .ret s) : AWp P .ret Q s := fun F g a w hs => wp_ret ⟨g, s, hs, h⟩
theorem zBT {P : Program} {y : Code} {Q : Exit → AState → Prop} {s t : AState} (h : AWp P y Q t) (hs : s.Le t) : seqK (AWp P y Q) Q .normal s := awp_le h hs
theorem zAP {P : Program} {y : Code} {Q : Exit → AState → Prop} {s : AState} (h : AWp P y Q s) : seqK (AWp P y Q) Q .normal s := h
theorem zCx {id : Nat} {Q : Exit → AState → Prop} {s : AState} (h : Q .normal s) : blockK id Q .normal s := h
theorem zAc {id : Nat} {N : AState → Prop} {Q : Exit → AState → Prop} {s : AState} (h : Q (.exit id) s) : seqK N Q (.exit id) s := h
theorem zBQ {id : Nat} {Q : Exit → AState → Prop} {s : AState} (h : Q .normal s) : blockK id Q (.exit id) s := by
 show (if id = id then Q .normal s else Q (.exit id) s); rw [if_pos rfl]; exact h
theorem zAE {N : AState → Prop} {Q : Exit → AState → Prop} {s : AState} (h : Q .ret s) : seqK N Q .ret s := h
theorem zAJ {id : Nat} {Q : Exit → AState → Prop} {s : AState} (h : Q .ret s) : blockK id Q .ret s := h
theorem retL {R V A : Type} {a : R} {o : R ⊕ V} {f : R → Option A} {g : V → Option A} {r : A} (l : some (Sum.inl a) = some o) (h : Sum.elim f g o = some r) : f a = some r := by cases l; exact h
theorem zFp {R V A : Type} {v : V} {f : R → Option A} {g : V → Option A} {r : A} (h : Sum.elim f g (.inr v) = some r) : g v = some r := h
def EndB (s : AState) (bs : List (List AV)) : Prop := s.base ≤ bs.length ∧ leBlocks s.blocks bs ∧ (s.blocks.length = bs.length ∨ underBlocks bs.length bs = true)
attribute [simp] EndB
theorem EndB.le {s : AState} {bs : List (List AV)} (h : EndB s bs) : s.Le (endS s bs) where
 tmps := fun t => by show leAV _ .top; cases s.tmps t <;> simp
 loans := fun t => rfl
 n := rfl
 base := rfl
 hbase := h.1
 short := h.2.1.get.1
 blocks := fun b blk' hb' => by
  obtain ⟨blk, e1, e2⟩ := h.2.1.get.2 b blk' hb'
  exact ⟨blk, e1, e2.get.1, e2.get.2⟩
 below := by
  rcases h.2.2 with h1 | h1
  ·exact .inl h1.symm
  ·exact .inr ⟨fun t => by simp [endS], zIh (zEt h1)⟩
theorem zA6 {P : Program} {f : FuncId} {fn : Func} {c : Code} {args : List AV} {bs bs' : List (List AV)} {res : AV} (hf : P.funcs[f]? = some fn) (hname : (fn.name == "runtime.NumGoroutine") = false) (hb : fn.body = some c)
  (hn : args.length ≤ fn.ntmps) (hown : args.all (fun x => !x.owns) = true)
  (h : AWp P c (Ret P fn fun r s => r = res ∧ EndB s bs' ∧ (bs'.length = s.blocks.length ∨ res.under bs'.length = true)) (start fn.ntmps bs.length args bs)) : Raw P f args bs res bs' :=
 raw_of_body hf hname hb hn hown fun _ => zI3 h fun e s hq => by
  cases e with
  | normal =>
   simp only [Ret] at hq ⊢
   split at hq
   ·exact ⟨hq.1, hq.2.1, hq.2.2.1.le, hq.2.2.2⟩
   ·exact hq.elim
  | ret =>
   simp only [Ret] at hq ⊢
   split at hq
   ·exact ⟨hq.1, hq.2.1, hq.2.2.1.le, hq.2.2.2⟩
   ·exact hq.elim
  | _ => exact hq
mutual
def AV.ren (f : Nat → Nat) : AV → AV
 | .mptr b o => .mptr (f b) o
 | .baddr t b => .baddr t (f b)
 | .fn g fs cs => .fn g (AV.renL f fs) (AV.renL f cs)
 | .iface t v => .iface t (v.ren f)
 | .agg cs => .agg (AV.renL f cs)
 | .tup cs => .tup (AV.renL f cs)
 | x => x
def AV.renL (f : Nat → Nat) : List AV → List AV
 | [] => []
 | x :: l => x.ren f :: AV.renL f l
end
theorem zE6 (f : Nat → Nat) : ∀ (l : List AV) (i : Nat), (AV.renL f l)[i]? = l[i]?.map (AV.ren f)
 | [], i => by simp [AV.renL]
 | x :: l, 0 => by simp [AV.renL]
 | x :: l, i + 1 => by simp [AV.renL, zE6 f l i]
theorem zDL (f : Nat → Nat) : ∀ l : List AV, (AV.renL f l).length = l.length
 | [] => rfl
 | x :: l => by simp [AV.renL, zDL f l]
theorem ren_one (f : Nat → Nat) (x : AV) : (x.ren f).one = x.one := by cases x <;> simp [AV.ren]
theorem ren_cellOk (f : Nat → Nat) (x : AV) (ty : TypeId) : (x.ren f).cellOk ty ↔ x.cellOk ty := by
 unfold AV.cellOk
 rw [ren_one]
 constructor
 ·rintro (h | ⟨b, h⟩)
  ·exact .inl h
  ·cases x <;> simp [AV.ren] at h
   exact .inr ⟨_, by rw [h.1]⟩
 ·rintro (h | ⟨b, h⟩)
  ·exact .inl h
  ·subst h; exact .inr ⟨_, rfl⟩
theorem Rep.ren {imm : Addr → Option Value} {σ σ' : List Nat} {f : Nat → Nat} (hf : ∀ (b k : Nat), σ[b]? = some k → σ'[f b]? = some k) {x : AV} {v : Value} (h : Rep imm σ x v) : Rep imm σ' (x.ren f) v := by
 induction h generalizing σ' with
 | int k n hb => exact .int k n hb
 | bool b => exact .bool b
 | str s l h hb => exact .str s l h hb
 | nilp => exact .nilp
 | mptr b off k h => exact .mptr _ off k (hf _ _ h)
 | baddr0 t b h => exact .baddr0 t _ (List.getElem?_eq_some_iff.1 (hf b _ (List.getElem?_eq_getElem h))).1
 | baddr t b k h => exact .baddr t _ k (hf _ _ h)
 | cptr cells a vs h r _ => exact .cptr cells a vs h r
 | nsl => exact .nsl
 | osl0 ec => exact .osl0 ec
 | osl ec l a n cap vs hn hc hbd he h r _ => exact .osl ec l a n cap vs hn hc hbd he h r
 | sl0 => exact .sl0
 | sl ec l a n cap vs hn hc hbd he h r _ => exact .sl ec l a n cap vs hn hc hbd he h r
 | fn g fs cs fv cv hf' hc _ _ ihf ihc =>
  refine .fn g _ _ fv cv (by rw [zDL]; exact hf') (by rw [zDL]; exact hc) (fun i x hx => ?_) (fun i x hx => ?_)
  ·rw [zE6] at hx
   cases hy : fs[i]? with
   | none => rw [hy] at hx; cases hx
   | some y => rw [hy] at hx; cases hx; exact ihf i y hy hf
  ·rw [zE6] at hx
   cases hy : cs[i]? with
   | none => rw [hy] at hx; cases hx
   | some y => rw [hy] at hx; cases hx; exact ihc i y hy hf
 | nilfn => exact .nilfn
 | iface t x v _ ih => exact .iface t _ v (ih hf)
 | nilif => exact .nilif
 | agg cs vs hs' _ ih =>
  refine .agg _ vs (by rw [zDL]; exact hs') (fun i x hx => ?_)
  rw [zE6] at hx
  cases hy : cs[i]? with
  | none => rw [hy] at hx; cases hx
  | some y => rw [hy] at hx; cases hx; exact ih i y hy hf
 | tup cs vs hs' _ ih =>
  refine .tup _ vs (by rw [zDL]; exact hs') (fun i x hx => ?_)
  rw [zE6] at hx
  cases hy : cs[i]? with
  | none => rw [hy] at hx; cases hx
  | some y => rw [hy] at hx; cases hx; exact ih i y hy hf
 | top v => exact .top v
theorem Rep.unren {imm : Addr → Option Value} {σ σ' : List Nat} {f : Nat → Nat} {m : Nat} (hf : ∀ (b : Nat), b < m → σ'[b]? = σ[f b]?) {y : AV} {v : Value} (h : Rep imm σ y v) :
  ∀ x : AV, y = x.ren f → x.under m = true → m ≤ σ'.length → Rep imm σ' x v := by
 induction h generalizing σ' with
 | int k n hb => intro x e hu hm; cases x <;> simp [AV.ren] at e; obtain ⟨rfl, rfl⟩ := e; exact .int _ _ hb
 | bool b => intro x e hu hm; cases x <;> simp [AV.ren] at e; subst e; exact .bool _
 | str s l h hb => intro x e hu hm; cases x <;> simp [AV.ren] at e; subst e; exact .str s _ h hb
 | nilp => intro x e hu hm; cases x <;> simp [AV.ren] at e; exact .nilp
 | mptr b off k h =>
  intro x e hu hm; cases x <;> simp [AV.ren] at e
  rename_i b' off'
  obtain ⟨rfl, rfl⟩ := e
  simp only [AV.under, decide_eq_true_eq] at hu
  exact .mptr _ _ k (by rw [hf _ hu]; exact h)
 | baddr0 t b h =>
  intro x e hu hm; cases x <;> simp [AV.ren] at e
  rename_i t' b'
  obtain ⟨rfl, rfl⟩ := e
  simp only [AV.under, decide_eq_true_eq] at hu
  exact .baddr0 _ _ (by omega)
 | baddr t b k h =>
  intro x e hu hm; cases x <;> simp [AV.ren] at e
  rename_i t' b'
  obtain ⟨rfl, rfl⟩ := e
  simp only [AV.under, decide_eq_true_eq] at hu
  exact .baddr _ _ k (by rw [hf _ hu]; exact h)
 | cptr cells a vs h r _ => intro x e hu hm; cases x <;> simp [AV.ren] at e; subst e; exact .cptr _ a vs h r
 | nsl => intro x e hu hm; cases x <;> simp [AV.ren] at e; exact .nsl
 | osl0 ec => intro x e hu hm; cases x <;> simp [AV.ren] at e; obtain ⟨rfl, rfl⟩ := e; exact .osl0 _
 | osl ec l a n cap vs hn hc hbd he h r _ => intro x e hu hm; cases x <;> simp [AV.ren] at e; obtain ⟨rfl, rfl⟩ := e; exact .osl _ _ a n cap vs hn hc hbd he h r
 | sl0 => intro x e hu hm; cases x <;> simp [AV.ren] at e; subst e; exact .sl0
 | sl ec l a n cap vs hn hc hbd he h r _ => intro x e hu hm; cases x <;> simp [AV.ren] at e; subst e; exact .sl ec _ a n cap vs hn hc hbd he h r
 | fn g fs cs fv cv hf' hc _ _ ihf ihc =>
  intro x e hu hm; cases x <;> simp [AV.ren] at e
  rename_i g' fs' cs'
  obtain ⟨rfl, rfl, rfl⟩ := e
  simp only [AV.under, Bool.and_eq_true] at hu
  refine .fn _ _ _ fv cv (by rw [zDL] at hf'; exact hf') (by rw [zDL] at hc; exact hc) (fun i x hx => ?_) (fun i x hx => ?_)
  ·exact ihf i _ (by rw [zE6, hx]; rfl) hf x rfl (zDc hu.1 hx) hm
  ·exact ihc i _ (by rw [zE6, hx]; rfl) hf x rfl (zDc hu.2 hx) hm
 | nilfn => intro x e hu hm; cases x <;> simp [AV.ren] at e; exact .nilfn
 | iface t x v _ ih =>
  intro y e hu hm; cases y <;> simp [AV.ren] at e
  obtain ⟨rfl, rfl⟩ := e
  exact .iface _ _ v (ih hf _ rfl (by simpa [AV.under] using hu) hm)
 | nilif => intro x e hu hm; cases x <;> simp [AV.ren] at e; exact .nilif
 | agg cs vs hs' _ ih =>
  intro x e hu hm; cases x <;> simp [AV.ren] at e
  subst e
  refine .agg _ vs (by rw [zDL] at hs'; exact hs') (fun i x hx => ?_)
  exact ih i _ (by rw [zE6, hx]; rfl) hf x rfl (zDc (by simpa [AV.under] using hu) hx) hm
 | tup cs vs hs' _ ih =>
  intro x e hu hm; cases x <;> simp [AV.ren] at e
  subst e
  refine .tup _ vs (by rw [zDL] at hs'; exact hs') (fun i x hx => ?_)
  exact ih i _ (by rw [zE6, hx]; rfl) hf x rfl (zDc (by simpa [AV.under] using hu) hx) hm
 | top v => intro x e hu hm; cases x <;> simp [AV.ren] at e; exact .top v
theorem OwnsBy.ren {imm : Addr → Option Value} {w : World} {bo : Option Nat} {x : AV} {v : Value} (f : Nat → Nat) : OwnsBy imm w bo (x.ren f) v ↔ OwnsBy imm w bo x v := by
 cases x <;> simp [AV.ren, OwnsBy]
def zIT (ρ : List Nat) (n : Nat) (j : Nat) : Nat := ρ.getD j (n + (j - ρ.length))
def lay (f : Nat → Nat) : List Nat → List (List AV) → List (List AV) → List (List AV)
 | [], l, bs => bs ++ l.map (AV.renL f)
 | r :: ρ, b :: l, bs => lay f ρ l (bs.set r (AV.renL f b))
 | _ :: _, [], bs => bs
def Stands (f : Nat → Nat) (bs : List (List AV)) : List Nat → List (List AV) → Prop
 | [], [] => True
 | r :: ρ, b :: l => bs[r]? = some (AV.renL f b) ∧ Stands f bs ρ l
 | _, _ => False
def noDup : List Nat → Bool
 | [] => true
 | r :: l => !(l.contains r) && noDup l
theorem noDup_spec : ∀ {l : List Nat}, noDup l = true → l.Nodup
 | [], _ => List.nodup_nil
 | r :: l, h => by
  simp only [noDup, Bool.and_eq_true, Bool.not_eq_true', List.contains_eq_mem, decide_eq_false_iff_not] at h
  exact List.nodup_cons.2 ⟨h.1, noDup_spec h.2⟩
def FrameOk (ρ : List Nat) (args : List AV) (bS bs : List (List AV)) : Prop :=
 noDup ρ = true ∧ AV.underL bS.length args = true ∧ underBlocks bS.length bS = true ∧ Stands (zIT ρ bs.length) bs ρ bS
theorem zFr {f : Nat → Nat} {bs : List (List AV)} : ∀ {ρ : List Nat} {l : List (List AV)}, Stands f bs ρ l → ρ.length = l.length
 | [], [], _ => rfl
 | r :: ρ, b :: l, h => by simp [zFr h.2]
 | [], _ :: _, h => h.elim
 | _ :: _, [], h => h.elim
theorem zHr {f : Nat → Nat} {bs : List (List AV)} : ∀ {ρ : List Nat} {l : List (List AV)}, Stands f bs ρ l → ∀ (j r : Nat) b, ρ[j]? = some r → l[j]? = some b → bs[r]? = some (AV.renL f b)
 | [], [], _, j, r, b, h1, h2 => by simp at h1
 | r :: ρ, b :: l, h, j, r', b', h1, h2 => by
  cases j with
  | zero => simp at h1 h2; subst h1; subst h2; exact h.1
  | succ j => exact zHr h.2 j r' b' (by simpa using h1) (by simpa using h2)
 | [], _ :: _, h, _, _, _, _, _ => h.elim
 | _ :: _, [], h, _, _, _, _, _ => h.elim
theorem lay_length (f : Nat → Nat) : ∀ (ρ : List Nat) (l bs : List (List AV)), ρ.length ≤ l.length → (lay f ρ l bs).length = bs.length + (l.length - ρ.length)
 | [], l, bs, _ => by simp [lay]
 | r :: ρ, b :: l, bs, h => by
  simp only [lay]
  rw [lay_length f ρ l _ (by simpa using h)]
  simp
 | _ :: _, [], bs, h => by simp at h
theorem zIv (f : Nat → Nat) : ∀ (ρ : List Nat) (l bs : List (List AV)) (b : Nat), b ∉ ρ → b < bs.length → (lay f ρ l bs)[b]? = bs[b]?
 | [], l, bs, b, _, h => by simp [lay, List.getElem?_append_left h]
 | r :: ρ, x :: l, bs, b, h1, h2 => by
  simp only [List.mem_cons, not_or] at h1
  simp only [lay]
  rw [zIv f ρ l _ b h1.2 (by simpa using h2), List.getElem?_set_ne (fun e => h1.1 e.symm)]
 | _ :: _, [], bs, b, _, _ => rfl
theorem lay_at (f : Nat → Nat) : ∀ (ρ : List Nat) (l bs : List (List AV)) (j r : Nat), ρ.Nodup → (∀ q, q ∈ ρ → q < bs.length) → ρ.length ≤ l.length → ρ[j]? = some r → (lay f ρ l bs)[r]? = l[j]?.map (AV.renL f)
 | [], l, bs, j, r, _, _, _, h => by simp at h
 | q :: ρ, x :: l, bs, j, r, hn, hq, hl, h => by
  simp only [lay]
  have hn' := List.nodup_cons.1 hn
  cases j with
  | zero =>
   simp at h; subst h
   rw [zIv f ρ l _ q hn'.1 (by simpa using hq q (List.mem_cons_self ..))]
   rw [List.getElem?_set_self (hq q (List.mem_cons_self ..))]; rfl
  | succ j =>
   rw [lay_at f ρ l _ j r hn'.2 (fun y hy => by simpa using hq y (List.mem_cons_of_mem _ hy)) (by simpa using hl) (by simpa using h)]
   simp
 | _ :: _, [], bs, j, r, _, _, hl, _ => by simp at hl
theorem lay_new (f : Nat → Nat) : ∀ (ρ : List Nat) (l bs : List (List AV)) (j : Nat), ρ.length ≤ l.length → (lay f ρ l bs)[bs.length + j]? = l[ρ.length + j]?.map (AV.renL f)
 | [], l, bs, j, _ => by simp only [lay]; rw [List.getElem?_append_right (by omega)]; simp
 | r :: ρ, x :: l, bs, j, h => by
  simp only [lay]
  have := lay_new f ρ l (bs.set r (AV.renL f x)) j (by simpa using h)
  rw [List.length_set] at this
  rw [this, List.length_cons, show ρ.length + 1 + j = (ρ.length + j) + 1 by omega, List.getElem?_cons_succ]
 | _ :: _, [], bs, j, h => by simp at h
def Gh.small (g : Gh) (ρ : List Nat) : Gh where
 imm := g.imm
 σ := ρ.map fun b => g.σ.getD b 0
 own := fun p => match p with
  | .cell j o => match ρ[j]? with
   | some b => g.own (.cell b o)
   | none => none
  | .tmp _ => none
theorem small_σ {g : Gh} {ρ : List Nat} (hlt : ∀ q, q ∈ ρ → q < g.σ.length) (j : Nat) : (g.small ρ).σ[j]? = (ρ[j]?).bind fun b => g.σ[b]? := by
 simp only [Gh.small, List.getElem?_map]
 cases h : ρ[j]? with
 | none => rfl
 | some b =>
  have := hlt b (List.mem_of_getElem? h)
  simp only [Option.map_some, Option.bind_some]
  rw [zEX 0 this]
theorem zIY {α : Type} {l : List α} (h : l.Nodup) {i j : Nat} {x : α} (hi : l[i]? = some x) (hj : l[j]? = some x) : i = j := by
 obtain ⟨h1, e1⟩ := List.getElem?_eq_some_iff.1 hi
 obtain ⟨h2, e2⟩ := List.getElem?_eq_some_iff.1 hj
 exact (List.getElem_inj h).1 (e1.trans e2.symm)
theorem sto_small {g : Gh} {bs bS : List (List AV)} {w : World} {ρ : List Nat} (h : Sto g bs w) (hn : ρ.Nodup) (hs : Stands (zIT ρ bs.length) bs ρ bS) (hu : underBlocks bS.length bS = true) : Sto (g.small ρ) bS w := by
 have hlen := zFr hs
 have hget := fun j r b h1 h2 => zHr hs j r b h1 h2
 have hlt : ∀ q, q ∈ ρ → q < g.σ.length := fun q hq => by
  obtain ⟨j, hj⟩ := List.getElem?_of_mem hq
  have hj' : j < bS.length := by rw [← hlen]; exact (List.getElem?_eq_some_iff.1 hj).1
  have := hget j q _ hj (List.getElem?_eq_getElem hj')
  rw [h.len]; exact (List.getElem?_eq_some_iff.1 this).1
 have hσ := small_σ (g := g) hlt
 refine { gok := h.gok, imm := h.imm, immσ := fun x v hx hm => ?_, len := by simp [Gh.small, hlen], nodup := ?_, blk := fun j blk k hb hk => ?_, ownσ := fun p k hp => ?_, ownInj := fun p q k hp hq => ?_ }
 ·obtain ⟨j, hj⟩ := List.getElem?_of_mem hm
  rw [hσ] at hj
  cases hr : ρ[j]? with
  | none => rw [hr] at hj; cases hj
  | some b => rw [hr] at hj; exact h.immσ x v hx (List.mem_of_getElem? hj)
 ·rw [List.nodup_iff_pairwise_ne, List.pairwise_iff_getElem]
  intro i j hi hj hij e
  have e1 : (g.small ρ).σ[i]? = some ((g.small ρ).σ[i]) := List.getElem?_eq_getElem hi
  have e2 : (g.small ρ).σ[j]? = some ((g.small ρ).σ[j]) := List.getElem?_eq_getElem hj
  rw [← e] at e2
  rw [hσ] at e1 e2
  cases h1 : ρ[i]? with
  | none => rw [h1] at e1; cases e1
  | some a =>
   cases h2 : ρ[j]? with
   | none => rw [h2] at e2; cases e2
   | some b =>
    rw [h1] at e1; rw [h2] at e2
    have := zIY h.nodup e1 e2
    subst this
    have := zIY hn h1 h2
    omega
 ·rw [hσ] at hk
  cases hr : ρ[j]? with
  | none => rw [hr] at hk; cases hk
  | some b =>
   rw [hr] at hk
   obtain ⟨c, ty, h1, h2, h3⟩ := h.blk b _ k (hget j b blk hr hb) hk
   refine ⟨c, ty, h1, by rw [h2, zDL], fun o x hx => ?_⟩
   obtain ⟨p1, p2, p3⟩ := h3 o (x.ren (zIT ρ bs.length)) (by rw [zE6, hx]; rfl)
   refine ⟨(ren_cellOk _ _ _).1 p1, ?_, ?_⟩
   ·refine p2.unren (m := bS.length) (fun b' hb' => ?_) x rfl (zDc (zEt hu blk (List.mem_of_getElem? hb)) hx) (by simp [Gh.small, hlen])
    have : ∃ r, ρ[b']? = some r := ⟨_, List.getElem?_eq_getElem (by rw [hlen]; exact hb')⟩
    obtain ⟨r, hr'⟩ := this
    rw [hσ, hr']
    simp only [Option.bind_some, zIT, List.getD_eq_getElem?_getD, hr', Option.getD_some]
   ·have : (g.small ρ).own (.cell j o) = g.own (.cell b o) := by simp [Gh.small, hr]
    rw [this]
    exact (OwnsBy.ren _).1 p3
 ·have : ∃ q, g.own q = some k := by
   cases p with
   | tmp t => cases hp
   | cell j o =>
    simp only [Gh.small] at hp
    split at hp
    ·exact ⟨_, hp⟩
    ·cases hp
  obtain ⟨q, hq⟩ := this
  refine ⟨fun hm => ?_, (h.ownσ q k hq).2⟩
  obtain ⟨j, hj⟩ := List.getElem?_of_mem hm
  rw [hσ] at hj
  cases hr : ρ[j]? with
  | none => rw [hr] at hj; cases hj
  | some b => rw [hr] at hj; exact (h.ownσ q k hq).1 (List.mem_of_getElem? hj)
 ·cases p with
  | tmp t => cases hp
  | cell j o =>
   cases q with
   | tmp t => cases hq
   | cell j' o' =>
    simp only [Gh.small] at hp hq
    cases h1 : ρ[j]? with
    | none => rw [h1] at hp; cases hp
    | some b =>
     cases h2 : ρ[j']? with
     | none => rw [h2] at hq; cases hq
     | some b' =>
      rw [h1] at hp; rw [h2] at hq
      have := h.ownInj _ _ k hp hq
      cases this
      rw [zIY hn h1 h2]
def Gh.large (g gS : Gh) (ρ : List Nat) : Gh where
 imm := gS.imm
 σ := g.σ ++ gS.σ.drop ρ.length
 own := fun p => match p with
  | .cell b o => if b < g.σ.length then (match ρ.idxOf? b with
    | some j => gS.own (.cell j o)
    | none => g.own (.cell b o))
   else gS.own (.cell (b - g.σ.length + ρ.length) o)
  | .tmp _ => none
theorem idxOf_some {ρ : List Nat} {b j : Nat} (h : ρ.idxOf? b = some j) : ρ[j]? = some b := by
 obtain ⟨hj, h1, _⟩ := List.idxOf?_eq_some_iff.1 h
 rw [List.getElem?_eq_getElem hj, h1]
theorem idxOf_none {ρ : List Nat} {b : Nat} (h : ρ.idxOf? b = none) : b ∉ ρ := List.idxOf?_eq_none_iff.1 h
theorem Raw.frame {P : Program} {f : FuncId} {args : List AV} {bS bS' : List (List AV)} {res : AV} (h : Raw P f args bS res bS') (ρ : List Nat) (bs : List (List AV)) (hok : FrameOk ρ args bS bs) :
  Raw P f (AV.renL (zIT ρ bs.length) args) bs (res.ren (zIT ρ bs.length)) (lay (zIT ρ bs.length) ρ bS' bs) := by
 obtain ⟨hn0, hua, hub, hs⟩ := hok
 have hn := noDup_spec hn0
 refine ⟨h.1, fun g w vals hst h0 htg ha => ?_⟩
 have hlen := zFr hs
 have hlt : ∀ q, q ∈ ρ → q < bs.length := fun q hq => by
  obtain ⟨j, hj⟩ := List.getElem?_of_mem hq
  have hj' : j < bS.length := by rw [← hlen]; exact (List.getElem?_eq_some_iff.1 hj).1
  have := zHr hs j q _ hj (List.getElem?_eq_getElem hj')
  exact (List.getElem?_eq_some_iff.1 this).1
 have hltσ : ∀ q, q ∈ ρ → q < g.σ.length := fun q hq => by rw [hst.len]; exact hlt q hq
 have hσ := small_σ (g := g) hltσ
 have hS := sto_small hst hn hs hub
 have hplace : ∀ (j r : Nat), ρ[j]? = some r → zIT ρ bs.length j = r := fun j r hr => by
  simp only [zIT, List.getD_eq_getElem?_getD, hr, Option.getD_some]
 have haS : RepL (g.small ρ).imm (g.small ρ).σ args vals := by
  refine ⟨by rw [ha.1, zDL], fun i x hx => ?_⟩
  refine (ha.2 i (x.ren (zIT ρ bs.length)) (by rw [zE6, hx]; rfl)).unren (m := bS.length) (fun b' hb' => ?_) x rfl (zDc hua hx) (by simp [Gh.small, hlen])
  obtain ⟨r, hr⟩ : ∃ r, ρ[b']? = some r := ⟨_, List.getElem?_eq_getElem (by rw [hlen]; exact hb')⟩
  rw [hσ, hr, hplace _ _ hr]; rfl
 have htS : TG (g.small ρ) w := ⟨htg.1, fun k hk => by
  obtain ⟨j, hj⟩ := List.getElem?_of_mem hk
  rw [hσ] at hj
  cases hr : ρ[j]? with
  | none => rw [hr] at hj; cases hj
  | some b => rw [hr] at hj; exact htg.2.1 k (List.mem_of_getElem? hj), fun p k hk => by
  cases p with
  | tmp t => cases hk
  | cell j o =>
   simp only [Gh.small] at hk
   split at hk
   ·exact htg.2.2 _ k hk
   ·cases hk⟩
 refine (h.2 (g.small ρ) w vals hS (fun t => rfl) htS haS).mono ?_
 rintro e w' ⟨gS, v, rfl, hv, hsto, hext, htmp⟩
 have hT : ∀ k, Fx.T ⟨w, g.small ρ⟩ k → (k ∈ (g.small ρ).σ) ∨ ∃ (j b o : Nat), ρ[j]? = some b ∧ g.own (.cell b o) = some k := by
  rintro k (hk | ⟨j, o, hk⟩)
  ·exact .inl hk
  ·simp only [Gh.small] at hk
   split at hk
   ·rename_i b hb; exact .inr ⟨j, b, o, hb, hk⟩
   ·cases hk
 have hsub : ∀ k, k ∈ (g.small ρ).σ → k ∈ g.σ := fun k hk => by
  obtain ⟨j, hj⟩ := List.getElem?_of_mem hk
  rw [hσ] at hj
  cases hr : ρ[j]? with
  | none => rw [hr] at hj; cases hj
  | some b => rw [hr] at hj; exact List.mem_of_getElem? hj
 have hTg : ∀ k, Fx.T ⟨w, g.small ρ⟩ k → Fx.T ⟨w, g⟩ k := fun k hk => by
  rcases hT k hk with h1 | ⟨j, b, o, _, h2⟩
  ·exact .inl (hsub k h1)
  ·exact .inr ⟨b, o, h2⟩
 have hmine : ∀ k, Fx.mine ⟨w, g.small ρ⟩ k → Fx.mine ⟨w, g⟩ k := fun k hk => hk.imp id (hTg k)
 have hpre : ∀ (j k : Nat), (g.small ρ).σ[j]? = some k → gS.σ[j]? = some k := hext.σ
 have hlenS : (g.small ρ).σ.length = ρ.length := by simp [Gh.small]
 have hgeS : ρ.length ≤ gS.σ.length := by
  rcases Nat.lt_or_ge gS.σ.length ρ.length with h1 | h1
  ·have h2 := List.getElem?_eq_getElem (show gS.σ.length < (g.small ρ).σ.length by rw [hlenS]; exact h1)
   have h3 := (List.getElem?_eq_some_iff.1 (hpre _ _ h2)).1
   omega
  ·exact h1
 have hge : ρ.length ≤ bS'.length := by rw [← hsto.len]; exact hgeS
 have hpreρ : ∀ (j b : Nat), ρ[j]? = some b → gS.σ[j]? = g.σ[b]? := fun j b hr => by
  have h1 := hσ j
  rw [hr] at h1
  have hb := hltσ b (List.mem_of_getElem? hr)
  simp only [Option.bind_some] at h1
  rw [List.getElem?_eq_getElem hb] at h1 ⊢
  exact hpre _ _ h1
 have hfr : ∀ (b k : Nat), g.σ[b]? = some k → b ∉ ρ → ¬ Fx.T ⟨w, g.small ρ⟩ k := fun b k hk hb ht => by
  rcases hT k ht with h1 | ⟨j, b', o, _, h2⟩
  ·obtain ⟨j, hj⟩ := List.getElem?_of_mem h1
   rw [hσ] at hj
   cases hr : ρ[j]? with
   | none => rw [hr] at hj; cases hj
   | some b' =>
    rw [hr] at hj
    have := zIY hst.nodup hk hj
    subst this
    exact hb (List.mem_of_getElem? hr)
  ·exact (hst.ownσ _ k h2).1 (List.mem_of_getElem? hk)
 have hfo : ∀ (b o k : Nat), g.own (.cell b o) = some k → b ∉ ρ → ¬ Fx.T ⟨w, g.small ρ⟩ k := fun b o k hk hb ht => by
  rcases hT k ht with h1 | ⟨j, b', o', hr, h2⟩
  ·exact (hst.ownσ _ k hk).1 (hsub k h1)
  ·have := hst.ownInj _ _ k hk h2
   cases this
   exact hb (List.mem_of_getElem? hr)
 have hnewmem : ∀ k, k ∈ gS.σ.drop ρ.length → k ∈ gS.σ ∧ k ∉ (g.small ρ).σ := fun k hk => by
  refine ⟨List.mem_of_mem_drop hk, fun hm => ?_⟩
  obtain ⟨j, hj⟩ := List.getElem?_of_mem hm
  obtain ⟨i, hi⟩ := List.getElem?_of_mem hk
  rw [List.getElem?_drop] at hi
  have := zIY hsto.nodup (hpre j k hj) hi
  have hj' := (List.getElem?_eq_some_iff.1 hj).1
  rw [hlenS] at hj'
  omega
 have hnewold : ∀ k, k ∈ gS.σ.drop ρ.length → k ∉ g.σ := fun k hk hm => by
  obtain ⟨h1, h2⟩ := hnewmem k hk
  rcases hext.mineσ k h1 with h3 | h3
  ·exact absurd (hst.σ_lt hm) (Nat.not_lt.2 h3)
  ·rcases hT k h3 with h4 | ⟨j, b, o, _, h5⟩
   ·exact h2 h4
   ·exact (hst.ownσ _ k h5).1 hm
 have hownNew : ∀ (j o k : Nat), gS.own (.cell j o) = some k → k ∉ g.σ := fun j o k hk hm => by
  rcases hext.mineOwn _ k hk with h3 | h3
  ·exact absurd (hst.σ_lt hm) (Nat.not_lt.2 h3)
  ·rcases hT k h3 with h4 | ⟨j', b, o', _, h5⟩
   ·obtain ⟨i, hi⟩ := List.getElem?_of_mem h4
    exact (hsto.ownσ _ k hk).1 (List.mem_of_getElem? (hpre i k hi))
   ·exact (hst.ownσ _ k h5).1 hm
 have hnum : ∀ (j k : Nat), gS.σ[j]? = some k → (g.large gS ρ).σ[zIT ρ bs.length j]? = some k := fun j k hk => by
  simp only [Gh.large]
  cases hr : ρ[j]? with
  | some b =>
   rw [hplace j b hr, List.getElem?_append_left (hltσ b (List.mem_of_getElem? hr)), ← hpreρ j b hr]; exact hk
  | none =>
   have hj : ρ.length ≤ j := List.getElem?_eq_none_iff.1 hr
   simp only [zIT, List.getD_eq_getElem?_getD, hr, Option.getD_none]
   rw [← hst.len, List.getElem?_append_right (by omega), List.getElem?_drop, show ρ.length + (g.σ.length + (j - ρ.length) - g.σ.length) = j by omega]; exact hk
 have hownρ : ∀ (j b o : Nat), ρ[j]? = some b → (g.large gS ρ).own (.cell b o) = gS.own (.cell j o) := fun j b o hr => by
  simp only [Gh.large]
  rw [if_pos (hltσ b (List.mem_of_getElem? hr))]
  cases hi : ρ.idxOf? b with
  | none => exact absurd (List.mem_of_getElem? hr) (idxOf_none hi)
  | some i => rw [zIY hn (idxOf_some hi) hr]
 have hownF : ∀ (b o : Nat), b < g.σ.length → b ∉ ρ → (g.large gS ρ).own (.cell b o) = g.own (.cell b o) := fun b o hb hr => by
  simp only [Gh.large]
  rw [if_pos hb]
  cases hi : ρ.idxOf? b with
  | none => rfl
  | some i => exact absurd (List.mem_of_getElem? (idxOf_some hi)) hr
 have hownN : ∀ (b o : Nat), g.σ.length ≤ b → (g.large gS ρ).own (.cell b o) = gS.own (.cell (b - g.σ.length + ρ.length) o) := fun b o hb => by
  simp only [Gh.large]
  rw [if_neg (by omega)]
 have hcases : ∀ (p : Place) (k : Nat), (g.large gS ρ).own p = some k → (∃ b o, p = .cell b o ∧ b < g.σ.length ∧ b ∉ ρ ∧ g.own p = some k) ∨
   (∃ b o j, p = .cell b o ∧ gS.own (.cell j o) = some k ∧ ((ρ[j]? = some b ∧ b < g.σ.length) ∨ (g.σ.length ≤ b ∧ j = b - g.σ.length + ρ.length))) := fun p k hp => by
  cases p with
  | tmp t => cases hp
  | cell b o =>
   rcases Nat.lt_or_ge b g.σ.length with hb | hb
   ·by_cases hr : b ∈ ρ
    ·obtain ⟨j, hj⟩ := List.getElem?_of_mem hr
     rw [hownρ j b o hj] at hp
     exact .inr ⟨b, o, j, rfl, hp, .inl ⟨hj, hb⟩⟩
    ·rw [hownF b o hb hr] at hp
     exact .inl ⟨b, o, rfl, hb, hr, hp⟩
   ·rw [hownN b o hb] at hp
    exact .inr ⟨b, o, _, rfl, hp, .inr ⟨hb, rfl⟩⟩
 have hσlen : (g.large gS ρ).σ.length = bs.length + (bS'.length - ρ.length) := by
  simp only [Gh.large, List.length_append, List.length_drop, hst.len, hsto.len]
 have hExt : Ext ⟨w, g⟩ (g.large gS ρ) w' := {
  gfx := htg.fx
  imm := hext.imm
  immNew := fun x u hx => (hext.immNew x u hx).imp id (hmine _)
  σ := fun b k hk => by
   show (g.σ ++ gS.σ.drop ρ.length)[b]? = some k
   rw [List.getElem?_append_left (List.getElem?_eq_some_iff.1 hk).1]; exact hk
  mineσ := fun k hk => by
   rcases List.mem_append.1 hk with h1 | h1
   ·exact .inr (.inl h1)
   ·exact hmine _ (hext.mineσ k (hnewmem k h1).1)
  mineOwn := fun p k hp => by
   rcases hcases p k hp with ⟨b, o, rfl, _, _, h3⟩ | ⟨b, o, j, rfl, h3, _⟩
   ·exact .inr (.inr ⟨b, o, h3⟩)
   ·exact hmine _ (hext.mineOwn _ k h3)
  keep := fun k hk hnt => hext.keep k hk fun ht => hnt (hTg k ht)
  size := hext.size
  os := hext.os
  tape := hext.tape
  output := hext.output }
 refine ⟨g.large gS ρ, v, rfl, hv.ren hnum, ?_, hExt, fun t => rfl⟩
 have hspare : ∀ (b o k : Nat) (a : Addr) lo hi, g.own (.cell b o) = some k → b ∉ ρ → a.block = k → Spare g.imm w a lo hi → Spare gS.imm w' a lo hi := fun b o k a lo hi hk hb hak hsp j h1 h2 => by
  obtain ⟨p1, ⟨u, p2⟩, p3⟩ := hsp j h1 h2
  have hkl := (hst.ownσ _ k hk).2
  have hnt := hfo b o k hk hb
  have hh := hext.keep k hkl hnt
  have hbl : (a.add j).block = k := by rw [zGF]; exact hak
  refine ⟨?_, ⟨u, ?_⟩, ?_⟩
  ·cases hc : gS.imm (a.add j) with
   | none => rfl
   | some u' =>
    rcases hext.immNew _ _ hc with h3 | h3
    ·have h3' : g.imm (a.add j) = some u' := h3
     rw [p1] at h3'; cases h3'
    ·rw [hbl] at h3
     rcases h3 with h4 | h4
     ·exact absurd hkl (Nat.not_lt.2 h4)
     ·exact absurd h4 hnt
  ·rw [← p2]; unfold World.cell?; rw [hbl, hh]
  ·rw [← p3]; unfold World.frozen?; rw [hbl, hh]
 refine { gok := hsto.gok, imm := hsto.imm, immσ := fun x u hx hm => ?_, len := by rw [hσlen, lay_length _ _ _ _ hge], nodup := ?_, blk := fun b blk k hb hk => ?_, ownσ := fun p k hp => ?_, ownInj := fun p q k hp hq => ?_ }
 ·rcases List.mem_append.1 hm with h1 | h1
  ·obtain ⟨b, hb⟩ := List.getElem?_of_mem h1
   by_cases hr : b ∈ ρ
   ·obtain ⟨j, hj⟩ := List.getElem?_of_mem hr
    exact hsto.immσ x u hx (List.mem_of_getElem? (i := j) (by rw [hpreρ j b hj]; exact hb))
   ·rcases hext.immNew x u hx with h2 | h2
    ·exact hst.immσ x u h2 h1
    ·rcases h2 with h3 | h3
     ·exact absurd (hst.σ_lt h1) (Nat.not_lt.2 h3)
     ·exact hfr b _ hb hr h3
  ·exact hsto.immσ x u hx (hnewmem _ h1).1
 ·refine List.nodup_append.2 ⟨hst.nodup, hsto.nodup.sublist (List.drop_sublist _ _), fun a ha b hb e => ?_⟩
  subst e; exact hnewold a hb ha
 ·
  have hS' : ∀ (j : Nat) blkS, bS'[j]? = some blkS → gS.σ[j]? = some k → (∀ o, (g.large gS ρ).own (.cell b o) = gS.own (.cell j o)) → blk = AV.renL (zIT ρ bs.length) blkS →
    ∃ c ty, w'.heap[k]? = some (.cells c ty (0, 0)) ∧ c.size = blk.length ∧ ∀ (o : Nat) x, blk[o]? = some x → x.cellOk ty ∧ Rep (g.large gS ρ).imm (g.large gS ρ).σ x (c.getD o undef) ∧ OwnsBy (g.large gS ρ).imm w' ((g.large gS ρ).own (.cell b o)) x (c.getD o undef) := by
   intro j blkS h1 h2 h3 h4
   obtain ⟨c, ty, q1, q2, q3⟩ := hsto.blk j blkS k h1 h2
   refine ⟨c, ty, q1, by rw [q2, h4, zDL], fun o x hx => ?_⟩
   rw [h4, zE6] at hx
   cases hy : blkS[o]? with
   | none => rw [hy] at hx; cases hx
   | some y =>
    rw [hy] at hx; cases hx
    obtain ⟨r1, r2, r3⟩ := q3 o y hy
    exact ⟨(ren_cellOk _ _ _).2 r1, r2.ren hnum, by rw [h3]; exact (OwnsBy.ren _).2 r3⟩
  rcases Nat.lt_or_ge b g.σ.length with hbl | hbl
  ·have hk' : g.σ[b]? = some k := by
    have : (g.σ ++ gS.σ.drop ρ.length)[b]? = some k := hk
    rwa [List.getElem?_append_left hbl] at this
   by_cases hr : b ∈ ρ
   ·obtain ⟨j, hj⟩ := List.getElem?_of_mem hr
    rw [lay_at _ _ _ _ j b hn hlt hge hj] at hb
    cases hq : bS'[j]? with
    | none => rw [hq] at hb; cases hb
    | some blkS =>
     rw [hq] at hb
     exact hS' j blkS hq (by rw [hpreρ j b hj]; exact hk') (fun o => hownρ j b o hj) (by cases hb; rfl)
   ·rw [zIv _ _ _ _ b hr (by rw [← hst.len]; exact hbl)] at hb
    obtain ⟨c, ty, q1, q2, q3⟩ := hst.blk b blk k hb hk'
    have hh := hext.keep k (hst.σ_lt (List.mem_of_getElem? hk')) (hfr b k hk' hr)
    refine ⟨c, ty, by rw [hh]; exact q1, q2, fun o x hx => ?_⟩
    obtain ⟨r1, r2, r3⟩ := q3 o x hx
    refine ⟨r1, r2.mono hext.imm (fun b' k' hb' => hExt.σ b' k' hb'), ?_⟩
    rw [hownF b o hbl hr]
    cases x <;> try exact trivial
    intro base n cap hv'
    rcases r3 base n cap hv' with h1 | ⟨a, h1, h2, ⟨h3, h4, m, h5, h6⟩, h7⟩
    ·exact .inl h1
    ·have hkl := (hst.ownσ _ _ h2).2
     have hnt := hfo b o _ h2 hr
     refine .inr ⟨a, h1, h2, ⟨h3, h4, m, zGe (hext.keep _ hkl hnt) h5, h6⟩, hspare b o _ a _ _ h2 hr rfl h7⟩
  ·have hk' : gS.σ[b - g.σ.length + ρ.length]? = some k := by
    have : (g.σ ++ gS.σ.drop ρ.length)[b]? = some k := hk
    rw [List.getElem?_append_right hbl, List.getElem?_drop] at this
    rw [Nat.add_comm]; exact this
   have hbl' : bs.length ≤ b := by rw [← hst.len]; exact hbl
   obtain ⟨d, rfl⟩ : ∃ d, b = bs.length + d := ⟨b - bs.length, by omega⟩
   rw [lay_new _ _ _ _ d hge] at hb
   have hidx : bs.length + d - g.σ.length + ρ.length = ρ.length + d := by rw [hst.len]; omega
   cases hq : bS'[ρ.length + d]? with
   | none => rw [hq] at hb; cases hb
   | some blkS =>
    rw [hq] at hb
    exact hS' (ρ.length + d) blkS hq (by rw [← hidx]; exact hk') (fun o => by rw [hownN _ o hbl, hidx]) (by cases hb; rfl)
 ·rcases hcases p k hp with ⟨b, o, rfl, hb, hr, h3⟩ | ⟨b, o, j, rfl, h3, h4⟩
  ·obtain ⟨q1, q2⟩ := hst.ownσ _ k h3
   refine ⟨fun hm => ?_, Nat.lt_of_lt_of_le q2 hext.size⟩
   rcases List.mem_append.1 hm with h5 | h5
   ·exact q1 h5
   ·obtain ⟨h6, h7⟩ := hnewmem k h5
    rcases hext.mineσ k h6 with h8 | h8
    ·exact absurd q2 (Nat.not_lt.2 h8)
    ·exact hfo b o k h3 hr h8
  ·obtain ⟨q1, q2⟩ := hsto.ownσ _ k h3
   refine ⟨fun hm => ?_, q2⟩
   rcases List.mem_append.1 hm with h5 | h5
   ·exact hownNew j o k h3 h5
   ·exact q1 (hnewmem k h5).1
 ·have hmix : ∀ (b o j o' : Nat), b ∉ ρ → g.own (.cell b o) = some k → gS.own (.cell j o') = some k → False := fun b o j o' hr h1 h2 => by
   rcases hext.mineOwn _ k h2 with h3 | h3
   ·exact absurd (hst.ownσ _ k h1).2 (Nat.not_lt.2 h3)
   ·exact hfo b o k h1 hr h3
  rcases hcases p k hp with ⟨b, o, rfl, hb, hr, h3⟩ | ⟨b, o, j, rfl, h3, h4⟩
  ·rcases hcases q k hq with ⟨b', o', rfl, hb', hr', h3'⟩ | ⟨b', o', j', rfl, h3', h4'⟩
   ·exact hst.ownInj _ _ k h3 h3'
   ·exact (hmix b o j' o' hr h3 h3').elim
  ·rcases hcases q k hq with ⟨b', o', rfl, hb', hr', h3'⟩ | ⟨b', o', j', rfl, h3', h4'⟩
   ·exact (hmix b' o' j o hr' h3' h3).elim
   ·have := hsto.ownInj _ _ k h3 h3'
    cases this
    congr 1
    rcases h4 with ⟨h5, h6⟩ | ⟨h5, h6⟩ <;> rcases h4' with ⟨h5', h6'⟩ | ⟨h5', h6'⟩
    ·rw [h5] at h5'; cases h5'; rfl
    ·have := (List.getElem?_eq_some_iff.1 h5).1; omega
    ·have := (List.getElem?_eq_some_iff.1 h5').1; omega
    ·omega
attribute [simp] AV.ren AV.renL zIT lay Stands noDup FrameOk
end Go.Abs
namespace Go.Proofs.YtlhikhaailhoaaaGreatDoor
open Go Go.Abs
structure zJC where
 Op : Int
 N : Int
 S : (List UInt8)
 Names : (List (List UInt8))
 L : (List zJC)
def zJC.c (x : zJC) : List AV := [.int .i64 x.Op, .int .i64 x.N, .str x.S, .sl (x.Names.map cS), .sl (x.L.map zJC.c)]
termination_by SizeOf.sizeOf x
decreasing_by all_goals (cases x; simp only [zJC.mk.sizeOf_spec]; have := List.sizeOf_lt_of_mem ‹_›; simp only at this; omega)
@[simp] theorem zJC.c_eq (x : zJC) : zJC.c x = [.int .i64 x.Op, .int .i64 x.N, .str x.S, .sl (x.Names.map cS), .sl (x.L.map zJC.c)] := by rw [zJC.c]
@[simp] def zJC.d (x : zJC) : List AV := [.int .i64 x.Op, .int .i64 x.N, .str x.S, .sl (x.Names.map cS), .sl (x.L.map zJC.c)]
@[simp] theorem okE_Api_Syn (l : List zJC) : zEl 5 (l.map zJC.c) := zGr (fun x => by simp) l
@[simp] theorem EL_Api_Syn (l : List zJC) : EL 5 (l.map zJC.c) := zI8 (fun x => by simp) l
structure zJA where
 n : Bool
 s : Bool
 names : Bool
 deriving DecidableEq
@[simp] def zJA.c (x : zJA) : List AV := [.bool x.n, .bool x.s, .bool x.names]
@[simp] theorem okE_Syntax_used (l : List zJA) : zEl 3 (l.map zJA.c) := zGr (fun x => by simp) l
@[simp] theorem EL_Syntax_used (l : List zJA) : EL 3 (l.map zJA.c) := zI8 (fun x => by simp) l
structure zI9 where
 tokens : (List (List UInt8))
 deriving DecidableEq
@[simp] def zI9.c (x : zI9) : List AV := [.sl (x.tokens.map cS)]
@[simp] theorem okE_Printer_writer (l : List zI9) : zEl 1 (l.map zI9.c) := zGr (fun x => by simp) l
@[simp] theorem EL_Printer_writer (l : List zI9) : EL 1 (l.map zI9.c) := zI8 (fun x => by simp) l
structure zJB where
 Name : (List UInt8)
 Imports : (List (List UInt8))
 Decls : (List zJC)
@[simp] def zJB.c (x : zJB) : List AV := [.str x.Name, .sl (x.Imports.map cS), .sl (x.Decls.map zJC.c)]
@[simp] theorem okE_Api_Unit (l : List zJB) : zEl 3 (l.map zJB.c) := zGr (fun x => by simp) l
@[simp] theorem EL_Api_Unit (l : List zJB) : EL 3 (l.map zJB.c) := zI8 (fun x => by simp) l
end Go.Proofs.YtlhikhaailhoaaaGreatDoor
