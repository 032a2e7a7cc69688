/- For every input the law PrinterUnits returns true. Part 4 of 16. No condition. -/
import Derived.Test.YtlhikhaailhoaaaGreatDoorPUc
import Derived.Laws.MakeOwn
set_option linter.unusedVariables false
set_option linter.unnecessarySimpa false
set_option linter.unusedSimpArgs false
set_option maxRecDepth 100000
set_option maxHeartbeats 1000000
namespace Go.Abs
open Go
def resLen (P : Program) (s : AState) (ts : Array TypeId) (x : Operand) : Option Res :=
 match ts[0]? with
 | some t => match P.underlying t, s.look x with
  | some .string, .str l => some ⟨True, .int .i64 l.length, none, s⟩
  | some (.slice _), v => match elems v with
   | some l => some ⟨True, .int .i64 l.length, none, s⟩
   | none => none
  | _, _ => none
 | none => none
theorem ok_len (P : Program) (o : Oper) (s : AState) (ts : Array TypeId) (x : Operand) (ho : o.op = .call { callee := .builtin .len, args := #[x], argTypes := ts }) (r : Res)
  (hr : resLen P s ts x = some r) (hs : r.side) : OpOk P o s r := by
 unfold resLen at hr
 split at hr
 case h_2 => cases hr
 rename_i t h0
 split at hr
 ·rename_i l hu hx
  cases hr
  refine .same rfl fun F g a w h => ?_
  obtain ⟨b, hb, hl, hbd⟩ := zHL h hx
  have hsz : b.size = l.length := by rw [zDu, hl]
  exact ⟨.int .i64 l.length, by simp [execOp, ho, resolve, invoke, builtin, Builtin.len_, h0, hb, underlying, hu, goInt, hsz], .int _ _ (by simp only [inR]; omega), fun p hp => by cases hp⟩
 ·rename_i e hu
  split at hr
  case h_2 => cases hr
  rename_i l hl
  cases hr
  refine .same rfl fun F g a w h => ?_
  obtain ⟨base, cap, hv, _, hbd, _⟩ := zF9 (zBh h x) hl
  exact ⟨.int .i64 l.length, by simp [execOp, ho, resolve, invoke, builtin, Builtin.len_, h0, hv, underlying, hu, goInt], .int _ _ (by simp only [inR]; omega), fun p hp => by cases hp⟩
 ·cases hr
def bound (s : AState) (d : Int) : Option Operand → Option Int
 | none => some d
 | some x => match s.look x with
  | .int _ n => some n
  | _ => none
theorem run_bound {F : Fx} {g : Gh} {s : AState} {a : Act} {w : World} (h : Sim F g s a w) {P : Program} {x : Operand} {n : Int} {k : IntKind} (hx : s.look x = .int k n) {y : Nat} (code : BoundsCode) (h0 : 0 ≤ n) (h1 : n ≤ y) :
  (Instr.sliceBound (a.eval x) y code).run P w = .ok n.toNat w := by
 rw [zGY h hx]; exact run_sliceBound w k n y code h0 h1
def InB (a b : Int) (n : Nat) : Prop := 0 ≤ a ∧ a ≤ b ∧ b ≤ n
def sub {α : Type} (l : List α) (a b : Int) : List α := (l.drop a.toNat).take (b.toNat - a.toNat)
def EL (n : Nat) (l : List (List AV)) : Prop := ∀ e, e ∈ l → e.length = n
def zG7 (P : Program) (s : AState) (t : TypeId) (x : Operand) (lo hi : Option Operand) : Option Res :=
 match P.underlying t with
 | some .string => match s.look x with
  | .str l => match bound s 0 lo, bound s l.length hi with
   | some a, some b => some ⟨InB a b l.length, .str (sub l a b), none, s⟩
   | _, _ => none
  | _ => none
 | some (.slice e) => match elems (s.look x), P.info? e with
  | some l, some i => match bound s 0 lo, bound s l.length hi with
   | some a, some b => some ⟨InB a b l.length ∧ EL i.size l, .sl (sub l a b), none, s⟩
   | _, _ => none
  | _, _ => none
 | _ => none
theorem run_hi {F : Fx} {g : Gh} {s : AState} {a : Act} {w : World} (h : Sim F g s a w) {P : Program} {hi : Option Operand} {n m : Nat} {q : Int} (hq : bound s n hi = some q) (h0 : 0 ≤ q) (hm : q ≤ m) (code : BoundsCode) :
  ((match hi.map a.eval with | some v => Instr.sliceBound v m code | none => pure n : Sem Nat)).run P w = .ok q.toNat w := by
 cases hi with
 | none => simp only [bound, Option.some.injEq] at hq; subst hq; simp
 | some y =>
  simp only [bound] at hq
  split at hq
  ·rename_i k n hn
   cases hq
   exact run_bound h hn code (by omega) (by omega)
  ·cases hq
theorem ok_slice (P : Program) (o : Oper) (s : AState) (t : TypeId) (x : Operand) (lo hi : Option Operand) (ho : o.op = .slice t x lo hi none) (r : Res) (hr : zG7 P s t x lo hi = some r) (hs : r.side) :
  OpOk P o s r := by
 unfold zG7 at hr
 split at hr
 ·rename_i hu
  split at hr
  case h_2 => cases hr
  rename_i l hx
  split at hr
  case h_2 => cases hr
  rename_i p q hp hq
  cases hr
  obtain ⟨h0, h1, h2⟩ := hs
  refine .same rfl fun F g a w h => ?_
  obtain ⟨b, hb, hl, hbd⟩ := zHL h hx
  have hsz : b.size = l.length := by rw [zDu, hl]
  refine ⟨.string (b.extract p.toNat q.toNat), ?_, .str _ _ ?_ (by unfold sub; rw [List.length_take, List.length_drop]; omega), fun p hp => by cases hp⟩
  ·have hh := fun code => run_hi h (P := P) hq (by omega) (m := b.size) (by omega) code
   have hlo := fun code => run_hi h (P := P) (n := 0) hp h0 (m := q.toNat) (by omega) code
   rw [← hsz] at hh
   simp only [execOp, ho, Instr.sliceAt, underlying, Sem.run_bind, run_program, Result.andThen_ok, hu, Sem.run_pure, Option.map_none, Instr.slice, hb, Instr.sliceBounds, Option.isSome_none, Bool.false_eq_true, if_false]
   cases hi with
   | none =>
    have := hh .sliceAlen
    cases lo with
    | none => have h3 := hlo .sliceB; simp_all
    | some y => have h3 := hlo .sliceB; simp_all
   | some z =>
    have := hh .sliceAlen
    cases lo with
    | none => have h3 := hlo .sliceB; simp_all
    | some y => have h3 := hlo .sliceB; simp_all
  ·rw [Lib.extract_data, hl]; rfl
 ·rename_i e hu
  split at hr
  case h_2 => cases hr
  rename_i l i hl hi'
  split at hr
  case h_2 => cases hr
  rename_i p q hp hq
  cases hr
  obtain ⟨⟨h0, h1, h2⟩, hel⟩ := hs
  refine .same rfl fun F g a w h => ?_
  obtain ⟨base, cap, hv, hcap, hbd, hels⟩ := zF9 (zBh h x) hl
  refine ⟨.slice (if cap = p.toNat then base else base.map (·.add (p.toNat * i.size))) (q.toNat - p.toNat) (cap - p.toNat), ?_, ?_, fun p hp => by cases hp⟩
  ·have hh := fun code => run_hi h (P := P) hq (by omega) (m := cap) (by omega) code
   have hlo := fun code => run_hi h (P := P) (n := 0) hp h0 (m := q.toNat) (by omega) code
   simp only [execOp, ho, Instr.sliceAt, underlying, Sem.run_bind, run_program, Result.andThen_ok, hu, Sem.run_pure, Option.map_none, Instr.slice, hv, Instr.sliceBounds, Option.isSome_none, Bool.false_eq_true, if_false, sizeOf, typeInfo, hi', if_true]
   cases hi with
   | none =>
    have := hh .sliceAcap
    cases lo with
    | none => have h3 := hlo .sliceB; simp_all
    | some y => have h3 := hlo .sliceB; simp_all
   | some z =>
    have := hh .sliceAcap
    cases lo with
    | none => have h3 := hlo .sliceB; simp_all
    | some y => have h3 := hlo .sliceB; simp_all
  ·have hlen : (sub l p q).length = q.toNat - p.toNat := by unfold sub; rw [List.length_take, List.length_drop]; omega
   have hget : ∀ (k : Nat) e, (sub l p q)[k]? = some e → k < q.toNat - p.toNat ∧ l[p.toNat + k]? = some e := fun k e hk => by
    have h3 := (List.getElem?_eq_some_iff.1 hk).1
    rw [hlen] at h3
    unfold sub at hk
    rw [List.getElem?_take, if_pos h3, List.getElem?_drop] at hk
    exact ⟨h3, hk⟩
   by_cases hcp : cap = p.toNat
   ·have hnil : sub l p q = [] := List.length_eq_zero_iff.1 (by rw [hlen]; omega)
    rw [if_pos hcp, hnil, show q.toNat - p.toNat = 0 by omega, show cap - p.toNat = 0 by omega]
    cases base with
    | none => exact .sl0
    | some b => exact .sl 0 [] b 0 0 (fun _ _ => undef) rfl (Nat.le_refl _) (Nat.zero_le _) (fun k e hk => by simp at hk) (fun k e hk => by simp at hk) (fun k e hk => by simp at hk)
   ·rw [if_neg hcp]
    cases base with
    | none =>
     have hnil : sub l p q = [] := by
      cases hc : sub l p q with
      | nil => rfl
      | cons y ys =>
       obtain ⟨_, h4⟩ := hget 0 y (by rw [hc]; rfl)
       obtain ⟨_, _, _, h5, _⟩ := hels _ _ h4
       cases h5
     have h6 : cap = 0 := by
      have := zBh h x
      rw [hv] at this
      generalize s.look x = z at this hl
      generalize l.length = m at this
      cases this <;> first | rfl | cases hl
     omega
    | some b =>
     have hvs : ∃ vs : Nat → Nat → Value, ∀ (k : Nat) e, (sub l p q)[k]? = some e → ∀ (j : Nat) y, e[j]? = some y → g.imm ((b.add (p.toNat * i.size)).add (k * i.size + j)) = some (vs k j) ∧ Rep g.imm [] y (vs k j) := by
      refine ⟨fun k j => (g.imm (b.add ((p.toNat + k) * i.size + j))).getD undef, fun k e hk j y hy => ?_⟩
      obtain ⟨h3, h4⟩ := hget k e hk
      obtain ⟨b', ec, vs, h5, h6, h7⟩ := hels _ _ h4
      cases h5
      have h8 := hel e (List.mem_of_getElem? h4)
      have h9 := h7 j y hy
      rw [← h6, h8] at h9
      rw [add_add, show p.toNat * i.size + (k * i.size + j) = (p.toNat + k) * i.size + j by rw [Nat.add_mul]; omega]
      refine ⟨by simp only [h9.1, Option.getD_some], ?_⟩
      simp only [h9.1, Option.getD_some]
      exact h9.2
     obtain ⟨vs, hvs⟩ := hvs
     exact .sl i.size _ _ _ _ vs hlen.symm (by omega) (by omega) (fun k e hk => hel e (List.mem_of_getElem? (hget k e hk).2)) (fun k e hk j y hy => (hvs k e hk j y hy).1) (fun k e hk j y hy => (hvs k e hk j y hy).2)
 ·cases hr
theorem zId (off : Nat) : ∀ (l : List Value) (n : Nat) (c : Array Value), off + n + l.length ≤ c.size →
  let c' := (l.zipIdx n).foldl (fun cs (q : Value × Nat) => cs.setIfInBounds (off + q.2) q.1) c
  c'.size = c.size ∧ ∀ i, c'.getD i undef = if off + n ≤ i ∧ i < off + n + l.length then l.getD (i - (off + n)) undef else c.getD i undef := by
 intro l
 induction l with
 | nil => intro n c h; refine ⟨rfl, fun i => ?_⟩; rw [if_neg (by simp only [List.length_nil]; omega)]; rfl
 | cons v l ih =>
  intro n c h
  simp only [List.length_cons] at h
  simp only [List.zipIdx_cons, List.foldl_cons]
  obtain ⟨h1, h2⟩ := ih (n + 1) (c.setIfInBounds (off + n) v) (by simp; omega)
  refine ⟨by rw [h1]; simp, fun i => ?_⟩
  rw [h2, zEp]
  simp only [List.length_cons]
  by_cases e : i = off + n
  ·subst e
   rw [if_neg (by omega), if_pos ⟨rfl, by omega⟩, if_pos (by omega)]
   simp
  ·by_cases h3 : off + (n + 1) ≤ i ∧ i < off + (n + 1) + l.length
   ·rw [if_pos h3, if_pos (by omega), show i - (off + n) = (i - (off + (n + 1))) + 1 by omega]; rfl
   ·rw [if_neg h3, if_neg (by omega), if_neg (by omega)]
theorem zIA (c v : Array Value) (off : Nat) : v.zipIdx.foldl (fun cs (q : Value × Nat) => cs.setIfInBounds (off + q.2) q.1) c = (v.toList.zipIdx 0).foldl (fun cs (q : Value × Nat) => cs.setIfInBounds (off + q.2) q.1) c := by
 rw [← Array.foldl_toList, Array.toList_zipIdx]
def zFu (cells : List AV) (off : Nat) : List AV → List AV
 | [] => cells
 | x :: xs => zFu (cells.set off x) (off + 1) xs
theorem setRange_spec : ∀ (xs cells : List AV) (off : Nat), (zFu cells off xs).length = cells.length ∧
  ∀ (i : Nat) y, (zFu cells off xs)[i]? = some y → (off ≤ i ∧ xs[i - off]? = some y) ∨ (¬ (off ≤ i ∧ i < off + xs.length) ∧ cells[i]? = some y) := by
 intro xs
 induction xs with
 | nil => intro cells off; exact ⟨rfl, fun i y hy => .inr ⟨by simp only [List.length_nil]; omega, hy⟩⟩
 | cons x xs ih =>
  intro cells off
  obtain ⟨h1, h2⟩ := ih (cells.set off x) (off + 1)
  refine ⟨by simp only [zFu]; rw [h1]; simp, fun i y hy => ?_⟩
  simp only [zFu] at hy
  rcases h2 i y hy with ⟨h3, h4⟩ | ⟨h3, h4⟩
  ·exact .inl ⟨by omega, by rw [show i - off = (i - (off + 1)) + 1 by omega]; simpa using h4⟩
  ·rcases getElem?_set_cases h4 with ⟨rfl, h5, rfl⟩ | ⟨h5, h6⟩
   ·exact .inl ⟨Nat.le_refl _, by simp⟩
   ·exact .inr ⟨by simp only [List.length_cons]; omega, h6⟩
def fillA (zIT : Nat → Option (Nat × Nat)) (cells : List AV) : List (Nat × AV) → Option (List AV)
 | [] => some cells
 | (i, v) :: rest => match zIT i with
  | none => none
  | some (off, size) => if v.solid = true ∧ v.cells.length = size ∧ off + size ≤ cells.length then fillA zIT (zFu cells off (v.cells.map AV.copy)) rest else none
theorem fill_ok {imm : Addr → Option Value} {σ : List Nat} {zIT : Nat → Option (Nat × Nat)} : ∀ (parts : List (Nat × AV)) (vparts : List (Nat × Value)) (cells cells' : List AV) (c : Array Value),
  fillA zIT cells parts = some cells' → RepL imm σ cells c → vparts.length = parts.length →
  (∀ (j : Nat) q, parts[j]? = some q → ∃ v, vparts[j]? = some (q.1, v) ∧ Rep imm σ q.2 v) → ∃ c', Instr.fill zIT c vparts = some c' ∧ RepL imm σ cells' c' := by
 intro parts
 induction parts with
 | nil =>
  intro vparts cells cells' c hf hr hl hp
  have : vparts = [] := by simpa using hl
  subst this
  simp only [fillA, Option.some.injEq] at hf; subst hf
  exact ⟨c, rfl, hr⟩
 | cons q parts ih =>
  intro vparts cells cells' c hf hr hl hp
  obtain ⟨i, x⟩ := q
  cases vparts with
  | nil => simp at hl
  | cons u vparts =>
   obtain ⟨v, hv, hx⟩ := hp 0 _ rfl
   simp only [List.getElem?_cons_zero, Option.some.injEq] at hv
   subst hv
   simp only [fillA] at hf
   split at hf
   ·cases hf
   ·rename_i off size hpl
    split at hf
    ·rename_i hc
     obtain ⟨h1, h2, h3⟩ := hc
     have hcs := (zFJ hx h1).map_copy
     have hvs : v.cells.size = size := by rw [hcs.1]; simp; exact h2
     obtain ⟨w1, w2⟩ := zId off v.cells.toList 0 c (by rw [Array.length_toList, hr.1]; omega)
     simp only [Array.length_toList, Nat.add_zero] at w1 w2
     have hrep : RepL imm σ (zFu cells off (x.cells.map AV.copy)) ((v.cells.toList.zipIdx 0).foldl (fun cs (q : Value × Nat) => cs.setIfInBounds (off + q.2) q.1) c) := by
      obtain ⟨e1, e2⟩ := setRange_spec (x.cells.map AV.copy) cells off
      refine ⟨by rw [w1, e1, hr.1], fun k y hy => ?_⟩
      rw [w2]
      rcases e2 k y hy with ⟨hk, hy'⟩ | ⟨hk, hy'⟩
      ·have hk2 := (List.getElem?_eq_some_iff.1 hy').1
       rw [List.length_map] at hk2
       rw [if_pos (by rw [hvs]; omega)]
       have := hcs.2 _ _ hy'
       rwa [Array.getD_eq_getD_getElem?, ← Array.getElem?_toList, ← List.getD_eq_getElem?_getD] at this
      ·rw [if_neg (by rw [hvs]; rw [List.length_map, h2] at hk; omega)]
       exact hr.2 k y hy'
     obtain ⟨c', hc1, hc2⟩ := ih vparts _ cells' _ hf hrep (by simpa using hl) (fun j q hq => by simpa using hp (j + 1) q (by simpa using hq))
     refine ⟨c', ?_, hc2⟩
     simp only [Instr.fill, hpl]
     rw [if_neg (by simp [hvs, hr.1]; omega), zIA]
     exact hc1
    ·cases hf
def placeOf (P : Program) (fields : Array Field) (i : Nat) : Option (Nat × Nat) :=
 match fields[i]? with
 | some f => match P.info? f.type with
  | some j => some (f.offset, j.size)
  | none => none
 | none => none
def zHA (P : Program) (s : AState) (t : TypeId) (parts : Array (Nat × Operand)) : Option Res :=
 match P.info? t, P.underlying t with
 | some i, some (.struct fields) => match i.zero with
  | some z => match fillA (placeOf P fields) (AV.ofConst z).cells (parts.toList.map fun q => (q.1, s.look q.2)) with
   | some cells => some ⟨(AV.ofConst z).solid = true ∧ fields.all (fun f => (P.info? f.type).isSome) = true, .agg cells, none, s⟩
   | none => none
  | none => none
 | some i, some (.array _ e) => match i.zero, P.info? e with
  | some z, some j => match fillA (fun k => some (k * j.size, j.size)) (AV.ofConst z).cells (parts.toList.map fun q => (q.1, s.look q.2)) with
   | some cells => some ⟨(AV.ofConst z).solid = true, .agg cells, none, s⟩
   | none => none
  | _, _ => none
 | _, _ => none
theorem run_mapM_list {P : Program} {α β : Type} (f : α → Sem β) (g : α → β) (w : World) : ∀ (l : List α), (∀ x, x ∈ l → (f x).run P w = .ok (g x) w) → (l.mapM f).run P w = .ok (l.map g) w := by
 intro l
 induction l with
 | nil => intro _; simp
 | cons x l ih =>
  intro h
  simp only [List.mapM_cons, Sem.run_bind, h x (List.mem_cons_self ..), Result.andThen_ok, ih (fun y hy => h y (List.mem_cons_of_mem _ hy)), Sem.run_pure, List.map_cons]
theorem run_mapM {P : Program} {α β : Type} (f : α → Sem β) (g : α → β) (w : World) (l : Array α) (h : ∀ x, x ∈ l.toList → (f x).run P w = .ok (g x) w) : (l.mapM f).run P w = .ok (l.map g) w := by
 rw [Array.mapM_eq_mapM_toList]
 simp only [Sem.run_map, run_mapM_list f g w l.toList h, Result.andThen_ok]
 congr 1
 apply Array.ext'
 simp
theorem parts_get {F : Fx} {g : Gh} {s : AState} {a : Act} {w : World} (h : Sim F g s a w) (parts : Array (Nat × Operand)) : ∀ (j : Nat) q, (parts.toList.map fun q => (q.1, s.look q.2))[j]? = some q →
  ∃ v, (parts.map fun (i, x) => (i, a.eval x)).toList[j]? = some (q.1, v) ∧ Rep g.imm g.σ q.2 v := fun j q hq => by
 obtain ⟨y, hy, rfl⟩ := getElem?_map_some hq
 refine ⟨a.eval y.2, ?_, zBh h y.2⟩
 rw [Array.toList_map, List.getElem?_map, hy]; rfl
theorem ok_build (P : Program) (o : Oper) (s : AState) (t : TypeId) (parts : Array (Nat × Operand)) (ho : o.op = .build t parts) (r : Res) (hr : zHA P s t parts = some r) (hs : r.side) : OpOk P o s r := by
 unfold zHA at hr
 split at hr
 ·rename_i i fields hi hu
  split at hr
  case h_2 => cases hr
  rename_i z hz
  split at hr
  case h_2 => cases hr
  rename_i cells hf
  cases hr
  obtain ⟨hs1, hs2⟩ := hs
  refine .same rfl fun F g a w h => ?_
  obtain ⟨c', e1, e2⟩ := fill_ok (imm := g.imm) (σ := g.σ) _ (parts.map fun (i, x) => (i, a.eval x)).toList _ _ z.cells hf (zFJ (zFY z) hs1) (by simp) (parts_get h parts)
  have hplaces : (fields.mapM fun f => (do pure (f.offset, ← sizeOf f.type) : Sem (Nat × Nat))).run P w = .ok (fields.map fun f => (f.offset, P.cellsOf f.type)) w := by
   refine run_mapM _ _ w fields fun f hf => ?_
   rw [Array.all_eq_true'] at hs2
   have hsome := hs2 f (by simpa using hf)
   cases hfi : P.info? f.type with
   | none => rw [hfi] at hsome; simp at hsome
   | some k => simp [sizeOf, typeInfo, hfi, Program.cellsOf]
  have hpl : ∀ (q : Nat), (fields.map fun f => (f.offset, P.cellsOf f.type))[q]? = placeOf P fields q := fun q => by
   rw [Array.getElem?_map]
   unfold placeOf
   cases hq : fields[q]? with
   | none => rfl
   | some f =>
    rw [Array.all_eq_true'] at hs2
    have hsome := hs2 f (Array.mem_of_getElem? hq)
    cases hfi : P.info? f.type with
    | none => rw [hfi] at hsome; simp at hsome
    | some k => simp [Program.cellsOf, hfi]
  have hfun : (fun q => (fields.map fun f => (f.offset, P.cellsOf f.type))[q]?) = placeOf P fields := funext hpl
  refine ⟨.agg c', ?_, .agg _ _ e2.1 e2.2, fun p hp => by cases hp⟩
  simp only [execOp, ho, Instr.build, zeroValue, typeInfo, underlying, Sem.run_bind, run_program, Result.andThen_ok, hi, hz, Sem.run_pure, hu, hplaces, hfun, e1]
 ·rename_i i m e hi hu
  split at hr
  case h_2 => cases hr
  rename_i z j hz hj
  split at hr
  case h_2 => cases hr
  rename_i cells hf
  cases hr
  have hs1 : (AV.ofConst z).solid = true := hs
  refine .same rfl fun F g a w h => ?_
  obtain ⟨c', e1, e2⟩ := fill_ok (imm := g.imm) (σ := g.σ) _ (parts.map fun (i, x) => (i, a.eval x)).toList _ _ z.cells hf (zFJ (zFY z) hs1) (by simp) (parts_get h parts)
  refine ⟨.agg c', ?_, .agg _ _ e2.1 e2.2, fun p hp => by cases hp⟩
  simp only [execOp, ho, Instr.build, zeroValue, typeInfo, underlying, sizeOf, Sem.run_bind, run_program, Result.andThen_ok, hi, hz, hj, Sem.run_pure, hu, e1]
 ·cases hr
def isR : List Nat → Nat → Bool
 | [], _ => true
 | x :: l, k => x == k && isR l (k + 1)
theorem isR_spec : ∀ (l : List Nat) (k : Nat), isR l k = true → l = List.range' k l.length
 | [], k, _ => rfl
 | x :: l, k, h => by
  simp only [isR, Bool.and_eq_true, beq_iff_eq] at h
  have := isR_spec l (k + 1) h.2
  rw [List.length_cons, List.range'_succ, ← this, h.1]
def zEL (P : Program) (s : AState) (t : TypeId) (n : Nat) (parts : Array (Nat × Operand)) : Option Res :=
 match P.underlying t with
 | some (.slice e) => match P.info? e with
  | some i => match i.zero with
   | some z => some ⟨zEl i.size (parts.toList.map fun q => (s.look q.2).norm.cells) ∧ (isR (parts.toList.map (·.1)) 0 = true ∧ parts.toList.length = n) ∧ (parts.toList.all fun q => (s.look q.2).solid) = true ∧ n * i.size ≤ 16777216 ∧ n ≤ 16777216,
     .osl ⟨i.size, e⟩ (parts.toList.map fun q => (s.look q.2).norm.cells), none, s⟩
   | none => none
  | none => none
 | _ => none
theorem solid_norm {x : AV} (h : x.solid = true) : x.norm.solid = true := by cases x <;> first | rfl | simp at h
theorem fill_row (size : Nat) : ∀ (vs : List Value) (k : Nat) (c : Array Value), (∀ v, v ∈ vs → v.cells.size = size) → (k + vs.length) * size ≤ c.size →
  ∃ c', Instr.fill (fun i => some (i * size, size)) c ((vs.zipIdx k).map fun q => (q.2, q.1)) = some c' ∧ c'.size = c.size ∧
   (∀ (i : Nat) v, vs[i]? = some v → ∀ j, j < size → c'.getD ((k + i) * size + j) undef = v.cells.getD j undef) ∧ (∀ m, m < k * size → c'.getD m undef = c.getD m undef) := by
 intro vs
 induction vs with
 | nil => intro k c _ _; exact ⟨c, rfl, rfl, fun i v hv => by simp at hv, fun _ _ => rfl⟩
 | cons v vs ih =>
  intro k c hsz hle
  simp only [List.length_cons] at hle
  have hv := hsz v (List.mem_cons_self ..)
  have hk : (k + 1) * size ≤ c.size := Nat.le_trans (Nat.mul_le_mul_right _ (by omega)) hle
  rw [Nat.add_mul] at hk
  obtain ⟨w1, w2⟩ := zId (k * size) v.cells.toList 0 c (by rw [Array.length_toList]; omega)
  simp only [Array.length_toList, Nat.add_zero] at w1 w2
  obtain ⟨c', h1, h2, h3, h4⟩ := ih (k + 1) _ (fun u hu => hsz u (List.mem_cons_of_mem _ hu)) (by rw [w1, show k + 1 + vs.length = k + (vs.length + 1) by omega]; exact hle)
  refine ⟨c', ?_, by rw [h2, w1], fun i u hu j hj => ?_, fun m hm => ?_⟩
  ·simp only [List.zipIdx_cons, List.map_cons, Instr.fill]
   rw [if_neg (by simp [hv]; omega), zIA]
   exact h1
  ·cases i with
   | zero =>
    simp at hu; subst hu
    rw [h4 _ (by rw [Nat.add_mul k 1]; simp only [Nat.add_zero]; omega), w2, if_pos (by simp only [Nat.add_zero]; omega)]
    simp only [Nat.add_zero, Nat.add_sub_cancel_left]
    rw [List.getD_eq_getElem?_getD, Array.getElem?_toList, Array.getD_eq_getD_getElem?]
   | succ i =>
    have := h3 i u (by simpa using hu) j hj
    rwa [show k + 1 + i = k + (i + 1) by omega] at this
  ·rw [h4 m (by rw [Nat.add_mul]; omega), w2, if_neg (by omega)]
theorem zip_of_range {α β : Type} (f : α → β) : ∀ (l : List (Nat × α)) (k n : Nat), l.map (·.1) = List.range' k n → l.map (fun q => (q.1, f q.2)) = ((l.map fun q => f q.2).zipIdx k).map fun q => (q.2, q.1) := by
 intro l
 induction l with
 | nil => intro k n _; rfl
 | cons q l ih =>
  intro k n h
  cases n with
  | zero => simp at h
  | succ n =>
   simp only [List.map_cons, List.range'_succ, List.cons.injEq] at h
   simp only [List.map_cons, List.zipIdx_cons, List.cons.injEq]
   exact ⟨by rw [h.1], ih (k + 1) n h.2⟩
theorem ok_buildSlice (P : Program) (o : Oper) (s : AState) (t : TypeId) (n : Nat) (parts : Array (Nat × Operand)) (ho : o.op = .buildSlice t n parts) (r : Res) (hr : zEL P s t n parts = some r) (hs : r.side) :
  OpOk P o s r := by
 unfold zEL at hr
 split at hr
 case h_2 => cases hr
 rename_i e hu
 split at hr
 case h_2 => cases hr
 rename_i i hi
 split at hr
 case h_2 => cases hr
 rename_i z hz
 cases hr
 obtain ⟨hok, hrange', hsolid, hbig⟩ := hs
 have hrange : (parts.toList.map (·.1)) = List.range n := by
  have := isR_spec _ _ hrange'.1
  rw [List.length_map, hrange'.2] at this
  rw [this, List.range_eq_range']
 intro F g a w h
 have hlen : parts.toList.length = n := by have := congrArg List.length hrange; simpa using this
 have hvals : ∀ v, v ∈ (parts.toList.map fun q => a.eval q.2) → v.cells.size = i.size := fun v hv => by
  obtain ⟨q, hq, rfl⟩ := List.mem_map.1 hv
  have h1 := zFJ (zBh h q.2).norm (solid_norm ((List.all_eq_true.1 hsolid) q hq))
  rw [h1.1]
  exact (hok _ (List.mem_map.2 ⟨q, hq, rfl⟩)).1
 generalize hz' : (if n * i.size = 0 then #[] else z.cells) = zc
 generalize hc0 : (Array.range (n * i.size)).map (fun k => zc[k % zc.size]!) = c0
 have hc0s : c0.size = n * i.size := by rw [← hc0]; simp
 obtain ⟨c, f1, f2, f3, _⟩ := fill_row i.size (parts.toList.map fun q => a.eval q.2) 0 c0 hvals (by rw [List.length_map, hlen, hc0s]; simp)
 have hparts : (parts.map fun (i, x) => (i, a.eval x)).toList = ((parts.toList.map fun q => a.eval q.2).zipIdx 0).map fun q => (q.2, q.1) := by
  rw [Array.toList_map]
  exact zip_of_range a.eval parts.toList 0 n (by rw [hrange, List.range_eq_range'])
 have hrun : (Instr.buildSlice t n (parts.map fun (i, x) => (i, a.eval x))).run P w = .ok (.slice (some ⟨w.heap.size, 0, none⟩) n n) (w.alloc (.cells c e (0, 0))) := by
  by_cases h0 : n * i.size = 0
  ·have hzc : zc = #[] := by rw [← hz', if_pos h0]
   subst hzc
   simp only [Instr.buildSlice, underlying, Sem.run_bind, run_program, Result.andThen_ok, hu, Sem.run_pure, sizeOf, typeInfo, hi]
   rw [Sem.run_ite, if_neg (by omega), Sem.run_ite, if_pos h0]
   simp only [Sem.run_bind, Sem.run_pure, Result.andThen_ok, hc0, hparts, f1, newRow, run_newObj, World.alloc_eq]
  ·have hzc : zc = z.cells := by rw [← hz', if_neg h0]
   subst hzc
   simp only [Instr.buildSlice, underlying, Sem.run_bind, run_program, Result.andThen_ok, hu, Sem.run_pure, sizeOf, typeInfo, hi]
   rw [Sem.run_ite, if_neg (by omega), Sem.run_ite, if_neg h0]
   simp only [Sem.run_bind, Sem.run_pure, Result.andThen_ok, zeroValue, typeInfo, run_program, hi, hz, hc0, hparts, f1, newRow, run_newObj, World.alloc_eq]
 obtain ⟨r1, r2, r3, r4⟩ := h.row c e (n * i.size)
 refine ⟨.slice (some ⟨w.heap.size, 0, none⟩) n n, w.alloc (.cells c e (0, 0)), _, some w.heap.size, .inl (by simp only [execOp, ho, Sem.run_bind, hrun, Result.andThen_ok, Sem.run_pure]), r1, ?_, fun base m cap hv => ?_, r2, fun p hp => by cases hp⟩
 rotate_left
 ·cases hv
  refine .inr ⟨_, rfl, rfl, ⟨rfl, rfl, c.size, ?_, by rw [f2, hc0s]; exact Nat.le_refl _⟩, fun j hj1 hj2 => (Nat.lt_irrefl _ (Nat.lt_of_le_of_lt hj1 hj2)).elim⟩
  unfold zHv
  rw [zE9]; exact if_pos (.inl rfl)
 refine .osl ⟨i.size, e⟩ _ _ _ _ (fun k j => c.getD (k * i.size + j) undef) (by simp [← hlen]) (Nat.le_refl _) (by omega) (fun k el hel => (hok el (List.mem_of_getElem? hel)).1) (fun k el hel j y hy => ?_) (fun k el hel j y hy => ?_)
 ·rw [add_new]
  have hk : k < n := by have := (List.getElem?_eq_some_iff.1 hel).1; simpa [hlen] using this
  have hj : j < i.size := by have := (List.getElem?_eq_some_iff.1 hy).1; rwa [(hok el (List.mem_of_getElem? hel)).1] at this
  refine Gh.row_imm_new _ _ _ _ _ ?_ (by rw [f2, hc0s]; exact Nat.le_refl _)
  show k * i.size + j < n * i.size
  have := Nat.mul_le_mul_right i.size (show k + 1 ≤ n by omega)
  rw [Nat.add_mul] at this; omega
 ·have hj : j < i.size := by have := (List.getElem?_eq_some_iff.1 hy).1; rwa [(hok el (List.mem_of_getElem? hel)).1] at this
  obtain ⟨q, hq, rfl⟩ := getElem?_map_some hel
  have h1 := zFJ (zBh h q.2).norm (solid_norm ((List.all_eq_true.1 hsolid) q (List.mem_of_getElem? hq)))
  have h3 := f3 k (a.eval q.2) (by rw [List.getElem?_map, hq]; rfl) j hj
  simp only [Nat.zero_add] at h3
  rw [h3]
  exact ((h1.2 j y hy).flat (zIW hok hel hy).2.2).monoI r4
def zIR (P : Program) (s : AState) (t : TypeId) (l c : Operand) : Option Res :=
 match s.look l, s.look c with
 | .int _ n0, .int _ n => match P.underlying t with
  | some (.slice e) => match P.info? e with
   | some i => match i.zero with
    | some z => some ⟨n0 = 0 ∧ 0 ≤ n ∧ (i.bytes : Int) * n ≤ 281474976710656 ∧ n ≤ 9223372036854775807, .osl ⟨i.size, e⟩ [], none, s⟩
    | none => none
   | none => none
  | _ => none
 | _, _ => none
theorem ok_make (P : Program) (o : Oper) (s : AState) (t : TypeId) (l c : Operand) (ho : o.op = .makeSlice t l c) (r : Res) (hr : zIR P s t l c = some r) (hs : r.side) : OpOk P o s r := by
 unfold zIR at hr
 split at hr
 case h_2 => cases hr
 rename_i k0 n0 k n hl hc
 split at hr
 case h_2 => cases hr
 rename_i e hu
 split at hr
 case h_2 => cases hr
 rename_i i hi
 split at hr
 case h_2 => cases hr
 rename_i z hz
 cases hr
 obtain ⟨h0, hn, hby, h63⟩ := hs
 subst h0
 intro F g a w h
 have el := zBh h l
 have ec := zBh h c
 rw [hl] at el; rw [hc] at ec
 have vl : a.eval l = .int k0 0 := by generalize a.eval l = v at el; cases el; rfl
 have vc : a.eval c = .int k n := by generalize a.eval c = v at ec; cases ec; rfl
 have hrun := run_make (P := P) w t e i z hu hi hz k0 k 0 n (Int.le_refl _) hn hby h63
 have hsz := size_madeCells z.cells (n.toNat * i.size)
 generalize hcs : madeCells z.cells (n.toNat * i.size) = cs at hrun hsz
 obtain ⟨r1, r2, r3, r4⟩ := h.row cs e 0
 refine ⟨.slice (some ⟨w.heap.size, 0, none⟩) 0 n.toNat, w.alloc (.cells cs e (0, 0)), _, some w.heap.size, .inl ?_, r1, ?_, fun base m cap hv => ?_, r2, fun p hp => by cases hp⟩
 ·simp only [execOp, ho, Sem.run_bind, vl, vc, hrun, Result.andThen_ok, Sem.run_pure]; rfl
 ·exact .osl ⟨i.size, e⟩ [] _ _ _ (fun _ _ => undef) rfl (Nat.zero_le _) (Nat.zero_le _) (fun k el hel => by simp at hel) (fun k el hel => by simp at hel) (fun k el hel => by simp at hel)
 ·cases hv
  refine .inr ⟨_, rfl, rfl, ⟨rfl, rfl, cs.size, ?_, by rw [hsz]; exact Nat.le_refl _⟩, fun j hj1 hj2 => ?_⟩
  ·unfold zHv
   rw [zE9]; exact if_pos (.inl rfl)
  ·exact r3 j (Nat.zero_le _) (by rw [hsz]; exact hj2)
def minI (a b : Int) : Int := if b < a then b else a
def maxI (a b : Int) : Int := if b > a then b else a
def resMM (s : AState) (mx : Bool) (x y : Operand) : Option Res :=
 match s.look x, s.look y with
 | .int k a, .int k' b => if k = k' then some ⟨True, .int k (if mx = true then maxI a b else minI a b), none, s⟩ else none
 | _, _ => none
theorem ok_mm (P : Program) (o : Oper) (s : AState) (ts : Array TypeId) (mx : Bool) (x y : Operand) (ho : o.op = .call { callee := .builtin (if mx = true then .max else .min), args := #[x, y], argTypes := ts }) (r : Res)
  (hr : resMM s mx x y = some r) (hs : r.side) : OpOk P o s r := by
 unfold resMM at hr
 split at hr
 case h_2 => cases hr
 rename_i k a k' b hx hy
 split at hr
 case isFalse => cases hr
 rename_i hk
 subst hk
 cases hr
 refine .same rfl fun F g a' w h => ?_
 have hxa := zGY h hx
 have hyb := zGY h hy
 have ra := rep_inR (by have := zBh h x; rwa [hx] at this)
 have rb := rep_inR (by have := zBh h y; rwa [hy] at this)
 refine ⟨.int k (if mx = true then maxI a b else minI a b), ?_, .int _ _ ?_, fun p hp => by cases hp⟩
 ·cases mx
  ·simp [execOp, ho, resolve, invoke, builtin, Builtin.min_, Builtin.min2, hxa, hyb, minI]
  ·simp [execOp, ho, resolve, invoke, builtin, Builtin.max_, Builtin.max2, hxa, hyb, maxI]
 ·cases mx
  ·show inR k (minI a b); unfold minI; split <;> assumption
  ·show inR k (maxI a b); unfold maxI; split <;> assumption
def Enters (P : Program) (f : FuncId) : Prop := ∃ fn, P.funcs[f]? = some fn ∧ (fn.name == "runtime.NumGoroutine") = false ∧ fn.body.isNone = false
theorem Enters.run {P : Program} {f : FuncId} (h : Enters P f) (args : Array Value) (w : World) : (callFunc f args).run P w = .ok (.enter f args) w := by
 obtain ⟨fn, h1, h2, h3⟩ := h
 simp only [callFunc, Sem.run_bind, run_program, Result.andThen_ok, h1, h2, h3, Bool.false_eq_true, if_false, Sem.run_pure]
def Pure (P : Program) (f : FuncId) (args : List AV) (res : AV) : Prop :=
 Enters P f ∧ ∀ (imm : Addr → Option Value) (w : World) (vals : Array Value), (∀ x v, imm x = some v → w.cell? x = some v) → GOk imm → Tabs w → RepL imm [] args vals →
  Calls P f vals w fun e w' => ∃ imm' v, e = .returned v ∧ Rep imm' [] res v ∧ (∀ x v, imm x = some v → imm' x = some v) ∧ (∀ x v, imm' x = some v → w'.cell? x = some v) ∧
   RowKit.Below w.heap.size w w' ∧ (∀ x v, imm' x = some v → imm x = some v ∨ w.heap.size ≤ x.block)
def Raw (P : Program) (f : FuncId) (args : List AV) (bs : List (List AV)) (res : AV) (bs' : List (List AV)) : Prop :=
 Enters P f ∧ ∀ (g : Gh) (w : World) (vals : Array Value), Sto g bs w → (∀ t, g.own (.tmp t) = none) → TG g w → RepL g.imm g.σ args vals →
  Calls P f vals w fun e w' => ∃ g' v, e = .returned v ∧ Rep g'.imm g'.σ res v ∧ Sto g' bs' w' ∧ Ext ⟨w, g⟩ g' w' ∧ (∀ t, g'.own (.tmp t) = none)
def StepOk (P : Program) (o : Oper) (s s' : AState) : Prop :=
 ∀ F g a w, Sim F g s a w → ∀ (K : Act → World → Prop) (Q : Exit → Act → World → Prop), (∀ g' a' w', Sim F g' s' a' w' → K a' w') → o.wp P a w K Q
theorem OpOk.step {P : Program} {o : Oper} {s : AState} {r : Res} (h : OpOk P o s r) : StepOk P o s (s.putR o.dst r) := fun F g a w hs K Q hK => by
 obtain ⟨v, w', g', bo, hrun, h1, h2, h3, h4, h5⟩ := h F g a w hs
 have hnext : K (a.put o.dst v) w' := by
  cases hd : o.dst with
  | none => exact hK _ _ _ (by simpa [AState.putR, hd, Act.put] using h1)
  | some d =>
   have hput := h1.putL d bo r.loan h2 h3 h4 h5
   have e : s.putR (some d) r = r.st.putL d r.val r.loan := rfl
   rw [hd, e] at hK
   exact hK _ _ _ hput
 rcases hrun with hrun | ⟨hrun, rfl⟩
 ·simpa only [Oper.wp, hrun, Oper.upon] using hnext
 ·simpa only [Oper.wp, hrun, Oper.upon] using hnext
def AState.called (s : AState) (d : Option Nat) (res : AV) (bs' : List (List AV)) : AState :=
 ({ s with blocks := bs', loans := fun t => match s.loans t with | some (.tmp u) => some (.tmp u) | _ => none } : AState).putO d res
theorem repL_nil_σ {imm : Addr → Option Value} {σ σ' : List Nat} {l : List AV} {c : Array Value} (h : RepL imm σ l c) (hf : AV.flatL l = true) : RepL imm σ' l c :=
 ⟨h.1, fun i x hx => (h.2 i x hx).flat (zGE hf hx)⟩
theorem Sim.after {F : Fx} {g g' : Gh} {s : AState} {a : Act} {w w' : World} {bs' : List (List AV)} (h : Sim F g s a w) (h0 : ∀ t, g'.own (.tmp t) = none)
  (hsto : Sto g' bs' w') (hext : Ext ⟨w, { g with own := fun p => match p with | .tmp _ => none | q => g.own q }⟩ g' w') :
  Sim F { g' with own := fun p => match p with | .tmp t => g.own (.tmp t) | q => g'.own q }
   { s with blocks := bs', loans := fun t => match s.loans t with | some (.tmp u) => some (.tmp u) | _ => none } a w' := by
 generalize hF : (⟨w, { g with own := fun p => match p with | .tmp _ => none | q => g.own q }⟩ : Fx) = F2 at hext
 have hw0 : F2.w0 = w := by rw [← hF]
 have hg0i : F2.g0.imm = g.imm := by rw [← hF]
 have hg0σ : F2.g0.σ = g.σ := by rw [← hF]
 have hT : ∀ k, F2.T k → k ∈ g.σ ∨ ∃ b o, g.own (.cell b o) = some k := fun k hk => by
  rw [← hF] at hk; exact hk
 have hTm : ∀ k, F2.T k → F.mine k := fun k hk => by
  rcases hT k hk with hk | ⟨b, o, hk⟩
  ·exact h.ext.mineσ k hk
  ·exact h.ext.mineOwn _ k hk
 have hmine : ∀ k, F2.mine k → F.mine k := fun k hk => by
  rcases hk with hk | hk
  ·rw [hw0] at hk; exact .inl (Nat.le_trans h.ext.size hk)
  ·exact hTm k hk
 have hframe : ∀ t k, g.own (.tmp t) = some k → k < w.heap.size ∧ ¬ F2.T k ∧ k ∉ g'.σ ∧ (∀ p, g'.own p ≠ some k) := fun t k hk => by
  have h1 := h.sto.ownσ _ _ hk
  have h2 : ¬ F2.T k := fun hT' => by
   rcases hT k hT' with h3 | ⟨b, o, h3⟩
   ·exact h1.1 h3
   ·have := h.sto.ownInj _ _ k hk h3; cases this
  have h3 : ¬ F2.mine k := fun hm => by
   rcases hm with hm | hm
   ·rw [hw0] at hm; omega
   ·exact h2 hm
  exact ⟨h1.2, h2, fun hm => h3 (hext.mineσ k hm), fun p hp => h3 (hext.mineOwn p k hp)⟩
 have himm : ∀ x v, g.imm x = some v → g'.imm x = some v := fun x v hx => hext.imm x v (by rw [hg0i]; exact hx)
 have hσ : ∀ (b k : Nat), g.σ[b]? = some k → g'.σ[b]? = some k := fun b k hb => hext.σ b k (by rw [hg0σ]; exact hb)
 exact {
  ext := {
   gfx := h.ext.gfx
   imm := fun x v hx => himm x v (h.ext.imm x v hx)
   immNew := fun x v hx => by
    rcases hext.immNew x v hx with h1 | h1
    ·rw [hg0i] at h1; exact h.ext.immNew x v h1
    ·exact .inr (hmine _ h1)
   σ := fun b k hb => hσ b k (h.ext.σ b k hb)
   mineσ := fun k hk => hmine k (hext.mineσ k hk)
   mineOwn := fun p k hk => by
    cases p with
    | tmp t => exact h.ext.mineOwn _ k hk
    | cell b o => exact hmine k (hext.mineOwn _ k hk)
   keep := fun k hk hT' => by
    have h2 : ¬ F2.T k := fun h3 => by
     rcases hTm k h3 with h4 | h4
     ·omega
     ·exact hT' h4
    have := hext.keep k (by rw [hw0]; exact Nat.lt_of_lt_of_le hk h.ext.size) h2
    rw [this, hw0]; exact h.ext.keep k hk hT'
   size := by have := hext.size; rw [hw0] at this; exact Nat.le_trans h.ext.size this
   os := by rw [hext.os, hw0]; exact h.ext.os
   tape := by rw [hext.tape, hw0]; exact h.ext.tape
   output := by rw [hext.output, hw0]; exact h.ext.output }
  sto := { hsto with
   blk := fun i b k hb hk => by
    obtain ⟨c, ty, h1, h2, h3⟩ := hsto.blk i b k hb hk
    exact ⟨c, ty, h1, h2, h3⟩
   ownσ := fun p k hk => by
    cases p with
    | tmp t =>
     have := hframe t k hk
     have h5 := hext.size
     rw [hw0] at h5
     exact ⟨this.2.2.1, by omega⟩
    | cell b o => exact hsto.ownσ _ k hk
   ownInj := fun p q k hp hq => by
    cases p with
    | tmp t =>
     cases q with
     | tmp u => exact h.sto.ownInj _ _ k hp hq
     | cell b o => exact ((hframe t k hp).2.2.2 _ hq).elim
    | cell b o =>
     cases q with
     | tmp u => exact ((hframe u k hq).2.2.2 _ hp).elim
     | cell b' o' => exact hsto.ownInj _ _ k hp hq }
  size := h.size
  tmps := fun t => by
   obtain ⟨h1, h2⟩ := h.tmps t
   refine ⟨h1.mono himm hσ, h2.world (fun x lo hi hx hs => fun j hj1 hj2 => ?_) (fun k sh hk hsh => by
    obtain ⟨f1, f2, f3, f4⟩ := hframe t k hk
    have hkk := hext.keep k (by rw [hw0]; exact f1) f2
    rw [hw0] at hkk
    exact zGe hkk hsh)⟩
   obtain ⟨h3, ⟨u, hu⟩, h5⟩ := hs j hj1 hj2
   obtain ⟨f1, f2, f3, f4⟩ := hframe t x.block hx
   have hblk : (x.add j).block = x.block := zGF x j
   have hk := hext.keep x.block (by rw [hw0]; exact f1) f2
   rw [hw0] at hk
   refine ⟨?_, ⟨u, ?_⟩, ?_⟩
   ·cases hn : g'.imm (x.add j) with
    | none => first | rfl | exact hn
    | some y =>
     rcases hext.immNew _ y hn with h6 | h6
     ·rw [hg0i, h3] at h6; cases h6
     ·rw [hblk] at h6
      rcases h6 with h6 | h6
      ·rw [hw0] at h6; omega
      ·exact (f2 h6).elim
   ·rw [World.cell?_of_block (w := w) (by rw [hblk]; exact hk)]; exact hu
   ·rw [World.frozen?_of_block (w := w) (by rw [hblk]; exact hk)]; exact h5
  loans := fun t p hp => by
   simp only at hp
   split at hp
   ·rename_i u hu
    cases hp
    exact h.loans t _ hu
   ·cases hp
  defers := h.defers
  base := h.base }
theorem Ext.refl' (w : World) (g : Gh) (hlt : ∀ k, k ∈ g.σ → k < w.heap.size) (h0 : ∀ t, g.own (.tmp t) = none) (htg : TG g w) : Ext ⟨w, g⟩ g w where
 gfx := htg.fx
 imm := fun _ _ h => h
 immNew := fun _ _ h => .inl h
 σ := fun _ _ h => h
 mineσ := fun k hk => .inr (.inl hk)
 mineOwn := fun p k hk => by
  cases p with
  | tmp t => rw [h0] at hk; cases hk
  | cell b o => exact .inr (.inr ⟨b, o, hk⟩)
 keep := fun _ _ _ => rfl
 size := Nat.le_refl _
 os := rfl
 tape := rfl
 output := rfl
theorem Sim.callee {F : Fx} {g : Gh} {s : AState} {a : Act} {w : World} (h : Sim F g s a w) : Sto { g with own := fun p => match p with | .tmp _ => none | q => g.own q } s.blocks w := { h.sto with
 blk := fun i b k hb hk => by
  obtain ⟨c, ty, h1, h2, h3⟩ := h.sto.blk i b k hb hk
  exact ⟨c, ty, h1, h2, h3⟩
 ownσ := fun p k hk => by
  cases p with
  | tmp t => cases hk
  | cell b o => exact h.sto.ownσ _ k hk
 ownInj := fun p q k hp hq => by
  cases p with
  | tmp t => cases hp
  | cell b o =>
   cases q with
   | tmp t => cases hq
   | cell b' o' => exact h.sto.ownInj _ _ k hp hq }
def zDi (s : AState) (first captured : List AV) (args : Array Operand) : List AV := first ++ (args.toList.map fun x => (s.look x).norm) ++ captured
theorem RepL.append {imm : Addr → Option Value} {σ : List Nat} {l l' : List AV} {c c' : Array Value} (h : RepL imm σ l c) (h' : RepL imm σ l' c') : RepL imm σ (l ++ l') (c ++ c') := by
 refine ⟨by simp [h.1, h'.1], fun i x hx => ?_⟩
 rcases zDn hx with ⟨hlt, hx1⟩ | ⟨k, rfl, hx1⟩
 ·have := h.2 i x hx1
  rw [Array.getD_eq_getD_getElem?, Array.getElem?_append_left (by rw [h.1]; exact hlt), ← Array.getD_eq_getD_getElem?]; exact this
 ·have := h'.2 k x hx1
  rw [Array.getD_eq_getD_getElem?, Array.getElem?_append_right (by rw [h.1]; omega), h.1, show l.length + k - l.length = k by omega, ← Array.getD_eq_getD_getElem?]; exact this
theorem repL_norm {F : Fx} {g : Gh} {s : AState} {a : Act} {w : World} (h : Sim F g s a w) (xs : Array Operand) : RepL g.imm g.σ (xs.toList.map fun x => (s.look x).norm) (xs.map a.eval) := by
 refine ⟨by simp, fun i x hx => ?_⟩
 obtain ⟨y, hy, rfl⟩ := getElem?_map_some hx
 rw [Array.getElem?_toList] at hy
 rw [Array.getD_eq_getD_getElem?, Array.getElem?_map, hy]
 exact (zBh h y).norm
theorem ok_call {P : Program} {o : Oper} {s : AState} {c : Call} {x : Operand} {f : FuncId} {first captured : List AV} (ho : o.op = .call c) (hc : c.callee = .value x) (hx : s.look x = .fn (.func f) first captured)
  {res : AV} {bs' : List (List AV)} (h : Raw P f (zDi s first captured c.args) s.blocks res bs') (hres : res.owns = false) : StepOk P o s (s.called o.dst res bs') := fun F g a w hs K Q hK => by
 have he := zBh hs x
 rw [hx] at he
 cases hv : a.eval x with
 | func fn fv cv =>
  rw [hv] at he
  cases he with
  | fn _ _ _ _ _ hf hcv rf rc =>
   have hargs : RepL g.imm g.σ (zDi s first captured c.args) ((fv ++ c.args.map a.eval) ++ cv) := RepL.append (RepL.append ⟨hf, rf⟩ (repL_norm hs c.args)) ⟨hcv, rc⟩
   have hrun : (execOp a.eval o).run P w = .ok (.enter f ((fv ++ c.args.map a.eval) ++ cv)) w := by
    simp only [execOp, ho, Sem.run_bind, resolve, hc, hv, Deferred.ofValue, Sem.run_pure, Result.andThen_ok, invoke, h.1.run]
   simp only [Oper.wp, hrun, Oper.upon]
   refine (h.2 _ w _ hs.callee (fun t => rfl) hs.ext.tg.callee hargs).mono fun e w' => ?_
   rintro ⟨g', v, rfl, h1, h2, h3, h4⟩
   have hsim := hs.after h4 h2 h3
   show K (a.put o.dst v) w'
   cases hd : o.dst with
   | none => exact hK _ _ _ (by simpa [AState.called, AState.putO, hd, Act.put] using hsim)
   | some d =>
    have hput := hsim.putTmp d none (x := res) (v := v) h1 (OwnsBy.of_not hres) Floating.none
    rw [hd] at hK
    exact hK _ _ _ hput
 | _ => rw [hv] at he; cases he
theorem toList_eq1 {α : Type} {l : Array α} {x : α} (h : l.toList = [x]) : l = #[x] := by apply Array.ext'; simpa using h
theorem zHj {α : Type} {l : Array α} {x y : α} (h : l.toList = [x, y]) : l = #[x, y] := by apply Array.ext'; simpa using h
def zE1 (P : Program) (s : AState) (c : Call) (b : Builtin) : Option Res :=
 match b, c.args.toList with
 | .len, [x] => resLen P s c.argTypes x
 | .append, [x, y] => zF8 P s c.argTypes x y
 | .min, [x, y] => resMM s false x y
 | .max, [x, y] => resMM s true x y
 | _, _ => none
def zHc (P : Program) (s : AState) : Op → Option Res
 | .move x => some (zIQ s x)
 | .assign x => some (zGk s x)
 | .pick c x y => some (zHw s c x y)
 | .alloc t => zHB P s t
 | .box t x => some (resBox P s t x)
 | .build t parts => zHA P s t parts
 | .buildSlice t n parts => zEL P s t n parts
 | .makeSlice t l c => zIR P s t l c
 | .load t x => zGj P s t x
 | .store t x y => zGT P s t x y
 | .nilCheck x => zFB s x
 | .binOp op t x y _ => resBin P s op t x y
 | .unOp op _ x => resUn s op x
 | .convert src dst x => zIS P s src dst x
 | .makeInterface t x => zG9 P s t x
 | .makeFunc f first captured => some (resFunc s f first captured)
 | .slice t x lo hi none => zG7 P s t x lo hi
 | .fieldAddr t x f => zEo P s t x f
 | .indexAddr t x i => zEn P s t x i
 | .index t x i => zG8 P s t x i
 | .extract x i => zFX s x i
 | .call c => match c.callee with
  | .builtin b => zE1 P s c b
  | _ => none
 | _ => none
theorem absOp_ok {P : Program} {o : Oper} {s : AState} {r : Res} (h : zHc P s o.op = some r) (hs : r.side) : OpOk P o s r := by
 cases ho : o.op <;> rw [ho] at h <;> simp only [zHc, reduceCtorEq] at h
 case move x => cases h; exact ok_move P o s x ho
 case assign x => cases h; exact ok_assign P o s x ho
 case pick c x y => cases h; exact ok_pick P o s c x y ho hs
 case alloc t => exact ok_alloc P o s t ho r h hs
 case box t x => cases h; exact ok_box P o s t x ho hs
 case build t parts => exact ok_build P o s t parts ho r h hs
 case buildSlice t n parts => exact ok_buildSlice P o s t n parts ho r h hs
 case makeSlice t l c => exact ok_make P o s t l c ho r h hs
 case load t x => exact ok_load P o s t x ho r h hs
 case store t x y => exact ok_store P o s t x y ho r h hs
 case nilCheck x => exact ok_nilCheck P o s x ho r h hs
 case binOp op t x y t' => exact ok_bin P o s op t t' x y ho r h hs
 case unOp op t x => exact ok_un P o s op t x ho r h hs
 case convert src dst x => exact ok_conv P o s src dst x ho r h hs
 case makeInterface t x => exact ok_iface P o s t x ho r h hs
 case makeFunc f first captured => cases h; exact ok_func P o s f first captured ho
 case slice t x lo hi mx =>
  cases mx with
  | none => exact ok_slice P o s t x lo hi ho r h hs
  | some m => simp at h
 case fieldAddr t x f => exact ok_fieldAddr P o s t x f ho r h hs
 case indexAddr t x i => exact ok_indexAddr P o s t x i ho r h hs
 case index t x i => exact ok_index P o s t x i ho r h hs
 case extract x i => exact ok_extract P o s x i ho r h hs
 case call c =>
  obtain ⟨callee, args, argTypes⟩ := c
  cases callee with
  | builtin b =>
   simp only [zE1] at h
   split at h
   ·rename_i x hx
    have := toList_eq1 hx; subst this
    exact ok_len P o s argTypes x ho r h hs
   ·rename_i x y hx
    have := zHj hx; subst this
    exact ok_append P o s argTypes x y ho r h hs
   ·rename_i x y hx
    have := zHj hx; subst this
    exact ok_mm P o s argTypes false x y ho r h hs
   ·rename_i x y hx
    have := zHj hx; subst this
    exact ok_mm P o s argTypes true x y ho r h hs
   ·cases h
  | value x => simp at h
  | invoke x m => simp at h
theorem zH5 {P : Program} {o : Oper} {s : AState} {c : Call} {x : Operand} {f : FuncId} {first captured : List AV} (ho : o.op = .call c) (hc : c.callee = .value x) (hx : s.look x = .fn (.func f) first captured)
  {res : AV} (h : Pure P f (zDi s first captured c.args) res) (hfl : AV.flatL (zDi s first captured c.args) = true) (hres : res.owns = false) : StepOk P o s (s.putO o.dst res) := fun F g a w hs K Q hK => by
 have he := zBh hs x
 rw [hx] at he
 cases hv : a.eval x with
 | func fn fv cv =>
  rw [hv] at he
  cases he with
  | fn _ _ _ _ _ hf hcv rf rc =>
   have hargs : RepL g.imm g.σ (zDi s first captured c.args) ((fv ++ c.args.map a.eval) ++ cv) := RepL.append (RepL.append ⟨hf, rf⟩ (repL_norm hs c.args)) ⟨hcv, rc⟩
   have hrun : (execOp a.eval o).run P w = .ok (.enter f ((fv ++ c.args.map a.eval) ++ cv)) w := by
    simp only [execOp, ho, Sem.run_bind, resolve, hc, hv, Deferred.ofValue, Sem.run_pure, Result.andThen_ok, invoke, h.1.run]
   simp only [Oper.wp, hrun, Oper.upon]
   refine (h.2 g.imm w _ hs.sto.imm hs.sto.gok hs.ext.tabs (repL_nil_σ hargs hfl)).mono fun e w' => ?_
   rintro ⟨imm', v, rfl, h1, h2, h3, h4, h5⟩
   have hsim := hs.grow h2 h3 h4 h5
   show K (a.put o.dst v) w'
   cases hd : o.dst with
   | none => exact hK _ _ _ (by simpa [AState.putO, hd, Act.put] using hsim)
   | some d =>
    have hput := hsim.putTmp d none (x := res) (v := v) (h1.mono (fun _ _ h => h) (fun _ _ h => by simp at h)) (OwnsBy.of_not hres) Floating.none
    rw [hd] at hK
    exact hK _ _ _ hput
 | _ => rw [hv] at he; cases he
def ResK (s : AState) (dst : Option Nat) (r : Option Res) (K : AState → Prop) : Prop :=
 match r with
 | some r => r.side ∧ K (s.putR dst r)
 | none => False
@[congr] theorem ResK_congr {s : AState} {dst : Option Nat} {r r' : Option Res} {K : AState → Prop} (h : r = r') : ResK s dst r K = ResK s dst r' K := by rw [h]
@[simp ↓] theorem ResK_some (s : AState) (dst : Option Nat) (r : Res) (K : AState → Prop) : ResK s dst (some r) K = (r.side ∧ K (s.putR dst r)) := Eq.trans rfl rfl
@[simp ↓] theorem ResK_none (s : AState) (dst : Option Nat) (K : AState → Prop) : ResK s dst none K = False := Eq.trans rfl rfl
def zGy (s : AState) (first captured : List AV) (args : Array Operand) : List AV := first ++ (args.toList.map fun x => s.look x) ++ captured
theorem repL_look {F : Fx} {g : Gh} {s : AState} {a : Act} {w : World} (h : Sim F g s a w) (xs : Array Operand) : RepL g.imm g.σ (xs.toList.map fun x => s.look x) (xs.map a.eval) := by
 refine ⟨by simp, fun i x hx => ?_⟩
 obtain ⟨y, hy, rfl⟩ := getElem?_map_some hx
 rw [Array.getElem?_toList] at hy
 rw [Array.getD_eq_getD_getElem?, Array.getElem?_map, hy]
 exact zBh h y
def PureO (P : Program) (f : FuncId) (args : List AV) (ec : EC) (l : List (List AV)) : Prop :=
 Enters P f ∧ ∀ (imm : Addr → Option Value) (w : World) (vals : Array Value), (∀ x v, imm x = some v → w.cell? x = some v) → GOk imm → Tabs w → RepL imm [] args vals →
  Calls P f vals w fun e w' => ∃ imm' v bo, e = .returned v ∧ Rep imm' [] (.osl ec l) v ∧ OwnsBy imm' w' bo (.osl ec l) v ∧ (∀ k, bo = some k → w.heap.size ≤ k ∧ k < w'.heap.size) ∧
   (∀ x v, imm x = some v → imm' x = some v) ∧ (∀ x v, imm' x = some v → w'.cell? x = some v) ∧ RowKit.Below w.heap.size w w' ∧ (∀ x v, imm' x = some v → imm x = some v ∨ w.heap.size ≤ x.block)
theorem ok_call_pureO {P : Program} {o : Oper} {s : AState} {c : Call} {x : Operand} {f : FuncId} {first captured : List AV} (ho : o.op = .call c) (hc : c.callee = .value x) (hx : s.look x = .fn (.func f) first captured)
  {ec : EC} {l : List (List AV)} (h : PureO P f (zGy s first captured c.args) ec l) (hfl : AV.flatL (zGy s first captured c.args) = true) : StepOk P o s (s.putO o.dst (.osl ec l)) := fun F g a w hs K Q hK => by
 have he := zBh hs x
 rw [hx] at he
 cases hv : a.eval x with
 | func fn fv cv =>
  rw [hv] at he
  cases he with
  | fn _ _ _ _ _ hf hcv rf rc =>
   have hargs : RepL g.imm g.σ (zGy s first captured c.args) ((fv ++ c.args.map a.eval) ++ cv) := RepL.append (RepL.append ⟨hf, rf⟩ (repL_look hs c.args)) ⟨hcv, rc⟩
   have hrun : (execOp a.eval o).run P w = .ok (.enter f ((fv ++ c.args.map a.eval) ++ cv)) w := by
    simp only [execOp, ho, Sem.run_bind, resolve, hc, hv, Deferred.ofValue, Sem.run_pure, Result.andThen_ok, invoke, h.1.run]
   simp only [Oper.wp, hrun, Oper.upon]
   refine (h.2 g.imm w _ hs.sto.imm hs.sto.gok hs.ext.tabs (repL_nil_σ hargs hfl)).mono fun e w' => ?_
   rintro ⟨imm', v, bo, rfl, h1, hO, hbo, h2, h3, h4, h5⟩
   have hsim := hs.grow h2 h3 h4 h5
   show K (a.put o.dst v) w'
   cases hd : o.dst with
   | none => exact hK _ _ _ (by simpa [AState.putO, hd, Act.put] using hsim)
   | some d =>
    have hput := hsim.putTmp d bo (x := .osl ec l) (v := v) (h1.mono (fun _ _ h => h) (fun _ _ h => by simp at h)) hO (fun k hk => by
     obtain ⟨b1, b2⟩ := hbo k hk
     refine ⟨fun p hp => ?_, .inl (Nat.le_trans hs.ext.size b1), b2, fun hm => ?_⟩
     ·have := (hs.sto.ownσ p k hp).2; omega
     ·have := hs.sto.σ_lt hm; omega)
    rw [hd] at hK
    exact hK _ _ _ hput
 | _ => rw [hv] at he; cases he
def CallP (P : Program) (f : FuncId) (args args0 : List AV) (s : AState) (dst : Option Nat) (K : AState → Prop) : Prop :=
 (∃ res, Pure P f args res ∧ AV.flatL args = true ∧ res.owns = false ∧ K (s.putO dst res)) ∨
 (∃ res bs', Raw P f args s.blocks res bs' ∧ res.owns = false ∧ K (s.called dst res bs')) ∨
 (∃ ec l, PureO P f args0 ec l ∧ AV.flatL args0 = true ∧ K (s.putO dst (.osl ec l)))
@[congr] theorem CallP_congr {P : Program} {f : FuncId} {args args' args0 args0' : List AV} {s : AState} {dst : Option Nat} {K : AState → Prop} (h : args = args') (h0 : args0 = args0') : CallP P f args args0 s dst K = CallP P f args' args0' s dst K := by rw [h, h0]
theorem zAA {P : Program} {f : FuncId} {args args0 : List AV} {s : AState} {dst : Option Nat} {K : AState → Prop} {res : AV} (h : Pure P f args res) (h1 : AV.flatL args = true) (h2 : res.owns = false) (h3 : K (s.putO dst res)) : CallP P f args args0 s dst K :=
 .inl ⟨res, h, h1, h2, h3⟩
theorem zAR {P : Program} {f : FuncId} {args args0 : List AV} {s : AState} {dst : Option Nat} {K : AState → Prop} {res : AV} {bs bs' : List (List AV)} (h : Raw P f args bs res bs') (h1 : s.blocks = bs) (h2 : res.owns = false) (h3 : K (s.called dst res bs')) : CallP P f args args0 s dst K :=
 .inr (.inl ⟨res, bs', by rw [h1]; exact h, h2, h3⟩)
def AStep (P : Program) (o : Oper) (s : AState) (K : AState → Prop) : Prop :=
 match o.op with
 | .call c => match c.callee with
  | .value x => match s.look x with
   | .fn (.func f) first captured => CallP P f (zDi s first captured c.args) (zGy s first captured c.args) s o.dst K
   | _ => False
  | .builtin b => ResK s o.dst (zE1 P s c b) K
  | _ => False
 | op => ResK s o.dst (zHc P s op) K
@[congr] theorem AStep_congr {P : Program} {o : Oper} {s s' : AState} {K : AState → Prop} (h : s = s') : AStep P o s K = AStep P o s' K := by rw [h]
theorem AStep.ok {P : Program} {o : Oper} {s : AState} {K : AState → Prop} (h : AStep P o s K) : ∃ s', StepOk P o s s' ∧ K s' := by
 have other : ∀ r, zHc P s o.op = some r → r.side → K (s.putR o.dst r) → ∃ s', StepOk P o s s' ∧ K s' := fun r h1 h2 h3 => ⟨_, (absOp_ok h1 h2).step, h3⟩
 unfold AStep at h
 split at h
 ·rename_i c ho
  split at h
  ·rename_i x hc
   split at h
   ·rename_i f first captured hx
    rcases h with ⟨res, h1, h2, h3, h4⟩ | ⟨res, bs', h1, h2, h3⟩ | ⟨ec, l, h1, h2, h3⟩
    ·exact ⟨_, zH5 ho hc hx h1 h2 h3, h4⟩
    ·exact ⟨_, ok_call ho hc hx h1 h2, h3⟩
    ·exact ⟨_, ok_call_pureO ho hc hx h1 h2, h3⟩
   ·exact h.elim
  ·rename_i b hc
   unfold ResK at h
   split at h
   ·rename_i r hr
    exact other r (by rw [ho]; simp only [zHc, hc]; exact hr) h.1 h.2
   ·exact h.elim
  ·exact h.elim
 ·unfold ResK at h
  split at h
  ·rename_i r hr
   exact other r hr h.1 h.2
  ·exact h.elim
def zHe (b want : Bool) (X Y : Prop) : Prop := (b = want → X) ∧ (b = !want → Y)
@[congr] theorem GuardK_congr {b b' want : Bool} {X Y : Prop} (h : b = b') : zHe b want X Y = zHe b' want X Y := by rw [h]
@[simp ↓] theorem GuardK_tt (X Y : Prop) : zHe true true X Y = X := by simp [zHe]
@[simp ↓] theorem GuardK_ff (X Y : Prop) : zHe false false X Y = X := by simp [zHe]
@[simp ↓] theorem GuardK_tf (X Y : Prop) : zHe true false X Y = Y := by simp [zHe]
@[simp ↓] theorem GuardK_ft (X Y : Prop) : zHe false true X Y = Y := by simp [zHe]
def zHN (v : AV) (want : Bool) (X Y : Prop) : Prop :=
 match v with
 | .bool b => zHe b want X Y
 | .tup [] => Y
 | _ => False
@[congr] theorem GuardV_congr {v v' : AV} {want : Bool} {X Y : Prop} (h : v = v') : zHN v want X Y = zHN v' want X Y := by rw [h]
@[simp ↓] theorem GuardV_bool (b want : Bool) (X Y : Prop) : zHN (.bool b) want X Y = zHe b want X Y := Eq.trans rfl rfl
@[simp ↓] theorem GuardV_tup (want : Bool) (X Y : Prop) : zHN (.tup []) want X Y = Y := Eq.trans rfl rfl
def zFc (d : Option Nat) (f : Nat → Prop) : Prop :=
 match d with
 | some d => f d
 | none => False
@[congr] theorem GuardAt_congr {d d' : Option Nat} {f : Nat → Prop} (h : d = d') : zFc d f = zFc d' f := by rw [h]
@[simp ↓] theorem GuardAt_some (d : Nat) (f : Nat → Prop) : zFc (some d) f = f d := Eq.trans rfl rfl
@[simp ↓] theorem GuardAt_none (f : Nat → Prop) : zFc none f = False := Eq.trans rfl rfl
def AOps (P : Program) (ops : Array Oper) (K : AState → Prop) : List Oper → AState → Prop
 | [], s => K s
 | o :: l, s => match o.guard with
  | none => AStep P o s (AOps P ops K l)
  | some (j, want) => zFc ((ops[j]?).bind (·.dst)) fun d => zHN (s.get d) want (AStep P o s (AOps P ops K l)) (AOps P ops K l (s.putO o.dst (.tup [])))
@[congr] theorem AOps_congr {P : Program} {ops : Array Oper} {K : AState → Prop} {l : List Oper} {s s' : AState} (h : s = s') : AOps P ops K l s = AOps P ops K l s' := by rw [h]
theorem Sim.putUndef {F : Fx} {g : Gh} {s : AState} {a : Act} {w : World} (h : Sim F g s a w) (d : Option Nat) : ∃ g', Sim F g' (s.putO d (.tup [])) (a.put d undef) w := by
 cases d with
 | none => exact ⟨g, h⟩
 | some d => exact ⟨_, h.putTmp d none (.tup [] #[] rfl (by simp)) trivial Floating.none⟩
theorem zGI {ops : Array Oper} {tmps : Array Value} {j d : Nat} {b : Bool} (h : (ops[j]?).bind (·.dst) = some d) (hv : tmps.getD d undef = .bool b) : yielded ops tmps j = some b := by
 unfold yielded
 rw [h]
 simp only [Option.bind_some]
 by_cases hd : d < tmps.size
 ·rw [Array.getD_eq_getD_getElem?, Array.getElem?_eq_getElem hd] at hv
  simp only [Option.getD_some] at hv
  rw [Array.getElem?_eq_getElem hd, hv]
 ·rw [Array.getD_eq_getD_getElem?, Array.getElem?_eq_none (by omega)] at hv; cases hv
theorem zFq {ops : Array Oper} {tmps : Array Value} {j d : Nat} (h : (ops[j]?).bind (·.dst) = some d) (hv : tmps.getD d undef = undef) : yielded ops tmps j = none := by
 unfold yielded
 rw [h]
 simp only [Option.bind_some]
 by_cases hd : d < tmps.size
 ·rw [Array.getD_eq_getD_getElem?, Array.getElem?_eq_getElem hd] at hv
  simp only [Option.getD_some] at hv
  rw [Array.getElem?_eq_getElem hd, hv]; rfl
 ·rw [Array.getElem?_eq_none (by omega)]
theorem AOps.sound {P : Program} {ops : Array Oper} {K : AState → Prop} {Q : Exit → Act → World → Prop} {F : Fx} (hK : ∀ g s a w, K s → Sim F g s a w → Q .normal a w) :
  ∀ (l : List Oper) (s : AState) (g : Gh) (a : Act) (w : World), AOps P ops K l s → Sim F g s a w → wpList P ops Q l a w := by
 intro l
 induction l with
 | nil => exact fun s g a w h hs => hK g s a w h hs
 | cons o l ih =>
  intro s g a w h hs
  have step : AStep P o s (AOps P ops K l) → o.wp P a w (wpList P ops Q l) Q := fun h => by
   obtain ⟨s', h1, h2⟩ := h.ok
   exact h1 F g a w hs _ Q fun g' a' w' hs' => ih s' g' a' w' h2 hs'
  have skip : AOps P ops K l (s.putO o.dst (.tup [])) → wpList P ops Q l (a.put o.dst undef) w := fun h => by
   obtain ⟨g', hs'⟩ := hs.putUndef o.dst
   exact ih _ g' _ w h hs'
  unfold AOps at h
  unfold wpList
  cases hg : o.guard with
  | none =>
   rw [hg] at h
   rw [if_pos (by simp [Region.wanted, hg])]
   exact .inl (step h)
  | some q =>
   obtain ⟨j, want⟩ := q
   rw [hg] at h
   simp only [zFc] at h
   split at h
   ·rename_i d hd
    have hr := (hs.tmps d).1
    unfold zHN at h
    split at h
    ·rename_i b hb
     have hb' : s.tmps d = .bool b := hb
     rw [hb'] at hr
     have hv : a.tmps.getD d undef = .bool b := by cases hh : a.tmps.getD d undef <;> rw [hh] at hr <;> cases hr; rfl
     have hy := zGI hd hv
     by_cases hbw : b = want
     ·rw [if_pos (by simp [Region.wanted, hg, hy, hbw])]
      exact .inl (step (h.1 hbw))
     ·rw [if_neg (by simp [Region.wanted, hg, hy, hbw])]
      exact skip (h.2 (by cases b <;> cases want <;> simp_all))
    ·rename_i hb
     have hb' : s.tmps d = .tup [] := hb
     rw [hb'] at hr
     have hv : a.tmps.getD d undef = undef := by
      cases hh : a.tmps.getD d undef <;> rw [hh] at hr <;> cases hr
      rename_i vs hsz _
      have : vs = #[] := by simpa using hsz
      subst this; rfl
     have hy := zFq hd hv
     rw [if_neg (by simp [Region.wanted, hg, hy])]
     exact skip h
    ·exact h.elim
   ·exact h.elim
def AWp (P : Program) (c : Code) (Q : Exit → AState → Prop) (s : AState) : Prop :=
 ∀ F g a w, Sim F g s a w → c.wp P (fun e a' w' => ∃ g' s', Sim F g' s' a' w' ∧ Q e s') a w
def seqK (N : AState → Prop) (Q : Exit → AState → Prop) : Exit → AState → Prop
 | .normal, s => N s
 | e, s => Q e s
def blockK (id : Nat) (Q : Exit → AState → Prop) : Exit → AState → Prop
 | .exit id', s => if id' = id then Q .normal s else Q (.exit id') s
 | e, s => Q e s
def AState.fresh (s : AState) : AState := { s with loans := fun _ => none }
theorem Sim.fresh {F : Fx} {g : Gh} {s : AState} {a : Act} {w : World} (h : Sim F g s a w) : Sim F g s.fresh a w := { h with loans := fun t p hp => by cases hp }
theorem awp_region {P : Program} {id : Nat} {ops : Array Oper} {Q : Exit → AState → Prop} {s : AState} (h : AOps P ops (Q .normal) ops.toList s.fresh) : AWp P (.region id ops false) Q s :=
 fun F g a w hs => wp_region_list (AOps.sound (K := Q .normal) (fun g s a w hk hs => ⟨g, s, hs, hk⟩) _ _ _ _ _ h hs.fresh)
theorem zI3 {P : Program} {c : Code} {Q Q' : Exit → AState → Prop} {s : AState} (h : AWp P c Q s) (hq : ∀ e s, Q e s → Q' e s) : AWp P c Q' s :=
 fun F g a w hs => wp_mono (h F g a w hs) fun e a w ⟨g', s', h1, h2⟩ => ⟨g', s', h1, hq e s' h2⟩
theorem zAM {P : Program} {x y : Code} {Q : Exit → AState → Prop} {s : AState} (h : AWp P x (seqK (AWp P y Q) Q) s) : AWp P (.seq x y) Q s := fun F g a w hs => by
 refine wp_seq (wp_mono (h F g a w hs) fun e a' w' ⟨g', s', h1, h2⟩ => ?_)
 cases e with
 | normal => exact h2 F g' a' w' h1
 | _ => exact ⟨g', s', h1, h2⟩
theorem awp_cond {P : Program} {c : Operand} {x y : Code} {Q : Exit → AState → Prop} {s : AState} {b : Bool} (hc : s.look c = .bool b) (h1 : b = true → AWp P x Q s) (h2 : b = false → AWp P y Q s) :
  AWp P (.cond c x y) Q s := fun F g a w hs =>
 wp_cond_split (eval_bool hs hc) (fun hb => h1 hb F g a w hs) (fun hb => h2 hb F g a w hs)
theorem zAU {P : Program} {id : Nat} {c : Code} {Q : Exit → AState → Prop} {s : AState} (h : AWp P c (blockK id Q) s) : AWp P (.block id c) Q s := fun F g a w hs => by
 refine wp_block (wp_mono (h F g a w hs) fun e a' w' ⟨g', s', h1, h2⟩ => ?_)
 cases e with
 | exit id' =>
  simp only [Exit.inBlock, blockK] at h2 ⊢
  split
  ·rename_i e; rw [if_pos e] at h2; exact ⟨g', s', h1, h2⟩
  ·rename_i e; rw [if_neg e] at h2; exact ⟨g', s', h1, h2⟩
 | _ => exact ⟨g', s', h1, h2⟩
@[simp] def leAV : AV → AV → Prop
 | _, .top => True
 | .nsl, .osl _ l => l = []
 | .nsl, .sl l => l = []
 | .osl ec l, .osl ec' l' => ec = ec' ∧ l = l'
 | .osl _ l, .sl l' => l = l'
 | .agg cs, .agg cs' => cs = cs' ∨ cs.map AV.norm1 = cs'
 | x, y => x = y
theorem leAV.le {x y : AV} (h : leAV x y) : x.le y := by
 unfold leAV at h
 split at h
 ·exact .inl rfl
 ·subst h; exact .inr (.inr (.inr (.inr (.inr (.inr ⟨rfl, _, rfl⟩)))))
 ·subst h; exact .inr (.inr (.inl rfl))
 ·obtain ⟨rfl, rfl⟩ := h; exact .inr (.inl rfl)
 ·subst h; exact .inr (.inr (.inl rfl))
 ·rcases h with rfl | rfl
  ·exact .inr (.inl rfl)
  ·exact .inr (.inr (.inr (.inl rfl)))
 ·subst h; exact .inr (.inl rfl)
def AllBelow (m : Nat) (bs : List (List AV)) : Prop := ∀ (i j : Nat) blk x, bs[i]? = some blk → blk[j]? = some x → x.under m = true
structure AState.Le (s s' : AState) : Prop where
 tmps : ∀ t, leAV (s.tmps t) (s'.tmps t)
 loans : ∀ t, s'.loans t = none
 n : s'.n = s.n
 base : s'.base = s.base
 hbase : s.base ≤ s'.blocks.length
 short : s'.blocks.length ≤ s.blocks.length
 blocks : ∀ (b : Nat) blk', s'.blocks[b]? = some blk' → ∃ blk, s.blocks[b]? = some blk ∧ blk.length = blk'.length ∧ ∀ (o : Nat) x', blk'[o]? = some x' → ∃ x, blk[o]? = some x ∧ leAV x x' ∧ (x'.one = true ∨ x = x')
 below : s'.blocks.length = s.blocks.length ∨ ((∀ t, (s'.tmps t).under s'.blocks.length = true) ∧ AllBelow s'.blocks.length s'.blocks)
theorem OwnsBy.le {imm : Addr → Option Value} {σ : List Nat} {w : World} {bo : Option Nat} {x y : AV} {v : Value} (h : OwnsBy imm w bo x v) (hr : Rep imm σ x v) (hl : x.le y) : OwnsBy imm w bo y v := by
 rcases hl with rfl | rfl | rfl | rfl | rfl | rfl | ⟨rfl, ec, rfl⟩
 ·trivial
 ·exact h
 ·exact OwnsBy.of_not (owns_norm1 _)
 ·exact OwnsBy.of_not (owns_norm _)
 ·exact OwnsBy.of_not (owns_normR _)
 ·exact OwnsBy.of_not (zEe _)
 ·intro base n cap hv; subst hv; cases hr; exact .inl rfl
theorem zGc {α : Type} {l : List α} {m : Nat} (h : m = l.length) : l.take m = l := by subst h; simp
theorem Sim.le' {F : Fx} {g : Gh} {s s' : AState} {a : Act} {w : World} (h : Sim F g s a w) (hl : s.Le s') : ∃ g', Sim F g' s' a w ∧ g'.imm = g.imm ∧ g'.σ = g.σ.take s'.blocks.length := by
 have hlen : s'.blocks.length ≤ g.σ.length := by rw [h.sto.len]; exact hl.short
 have htake : ∀ (b k : Nat), (g.σ.take s'.blocks.length)[b]? = some k → g.σ[b]? = some k ∧ b < s'.blocks.length := fun b k hb => by
  rw [List.getElem?_take] at hb
  split at hb
  ·rename_i h1; exact ⟨hb, h1⟩
  ·cases hb
 have hrep : ∀ x v, Rep g.imm g.σ x v → (s'.blocks.length = s.blocks.length ∨ x.under s'.blocks.length = true) → Rep g.imm (g.σ.take s'.blocks.length) x v := fun x v hr hb => by
  rcases hb with hb | hb
  ·rw [zGc (by rw [h.sto.len]; exact hb)]; exact hr
  ·exact hr.under _ hb
 refine ⟨{ g with σ := g.σ.take s'.blocks.length }, ?_, rfl, rfl⟩
 exact {
  ext := { h.ext with
   imm := h.ext.imm
   immNew := h.ext.immNew
   σ := fun b k hb => by
    have h1 : b < s'.blocks.length := by
     have := (List.getElem?_eq_some_iff.1 hb).1
     have h2 := h.base
     have h3 := hl.hbase
     omega
    show (g.σ.take s'.blocks.length)[b]? = some k
    rw [List.getElem?_take, if_pos h1]; exact h.ext.σ b k hb
   mineσ := fun k hk => h.ext.mineσ k (List.mem_of_mem_take hk)
   mineOwn := h.ext.mineOwn }
  sto := {
   gok := h.sto.gok
   imm := h.sto.imm
   immσ := fun x v hx hm => h.sto.immσ x v hx (List.mem_of_mem_take hm)
   len := by simp [hlen]
   nodup := h.sto.nodup.sublist (List.take_sublist _ _)
   blk := fun i blk' k hb hk => by
    obtain ⟨hk1, hk2⟩ := htake i k hk
    obtain ⟨blk, e1, e2, e3⟩ := hl.blocks i blk' hb
    obtain ⟨c, ty, f1, f2, f3⟩ := h.sto.blk i blk k e1 hk1
    refine ⟨c, ty, f1, by rw [f2, e2], fun j x' hx' => ?_⟩
    obtain ⟨x, p1, p2, p3⟩ := e3 j x' hx'
    obtain ⟨q1, q2, q3⟩ := f3 j x p1
    refine ⟨?_, hrep _ _ (q2.le p2.le) ?_, q3.le q2 p2.le⟩
    ·rcases p3 with p3 | p3
     ·exact .inl p3
     ·rw [← p3]; exact q1
    rcases hl.below with hb' | ⟨_, hb'⟩
    ·exact .inl hb'
    ·exact .inr (hb' i j blk' x' hb hx')
   ownσ := fun p k hk => ⟨fun hm => (h.sto.ownσ p k hk).1 (List.mem_of_mem_take hm), (h.sto.ownσ p k hk).2⟩
   ownInj := h.sto.ownInj }
  size := by rw [hl.n]; exact h.size
  tmps := fun t => by
   refine ⟨hrep _ _ ((h.tmps t).1.le (hl.tmps t).le) ?_, (h.tmps t).2.le (h.tmps t).1 (hl.tmps t).le⟩
   rcases hl.below with hb' | ⟨hb', _⟩
   ·exact .inl hb'
   ·exact .inr (hb' t)
  loans := fun t p hp => by rw [hl.loans] at hp; cases hp
  defers := h.defers
  base := by rw [hl.base]; exact h.base }
theorem Sim.le {F : Fx} {g : Gh} {s s' : AState} {a : Act} {w : World} (h : Sim F g s a w) (hl : s.Le s') : ∃ g', Sim F g' s' a w := by
 obtain ⟨g', h1, _⟩ := h.le' hl
 exact ⟨g', h1⟩
theorem awp_le {P : Program} {c : Code} {Q : Exit → AState → Prop} {s s' : AState} (h : AWp P c Q s') (hl : s.Le s') : AWp P c Q s := fun F g a w hs => by
 obtain ⟨g', hs'⟩ := hs.le hl
 exact h F g' a w hs'
theorem awp_loop {P : Program} {c : Code} {Q : Exit → AState → Prop} {s : AState} {α : Type} (I : α → AState) (μ : α → Nat) (x0 : α) (h0 : s.Le (I x0))
  (round : ∀ x, AWp P c (seqK (fun s' => ∃ y, s'.Le (I y) ∧ μ y < μ x) Q) (I x)) : AWp P (.loop c) Q s := by
 intro F g a w hs b k cs
 obtain ⟨g0, hs0⟩ := hs.le h0
 have key : ∀ n x, μ x = n → ∀ g a w, Sim F g (I x) a w →
   ∃ e a' w', (∃ g' s', Sim F g' s' a' w' ∧ Q e s') ∧ Arrives P (lone (b.at a (.code c :: .inLoop c :: k)) cs w) b k cs e a' w' := by
  intro n
  induction n using Nat.strongRecOn with
  | _ n ih =>
   intro x hn g a w hI
   obtain ⟨e, a₁, w₁, ⟨g1, s1, h1, h2⟩, harr⟩ := round x F g a w hI b (.inLoop c :: k) cs
   cases e with
   | normal =>
    obtain ⟨y, hy, hlt⟩ := h2
    obtain ⟨g2, h3⟩ := h1.le hy
    obtain ⟨e₂, a₂, w₂, hq₂, harr₂⟩ := ih (μ y) (hn ▸ hlt) y rfl g2 a₁ w₁ h3
    exact ⟨e₂, a₂, w₂, hq₂, .of_steps (Steps.trans harr (.one step_inLoop)) harr₂⟩
   | exit id => exact ⟨_, a₁, w₁, ⟨g1, s1, h1, h2⟩, .pass (x := .inLoop c) rfl (fun _ _ => .inl (by simp)) harr⟩
   | goto l => exact ⟨_, a₁, w₁, ⟨g1, s1, h1, h2⟩, .pass (x := .inLoop c) rfl (fun _ _ => .inl (by simp)) harr⟩
   | ret => exact ⟨_, a₁, w₁, ⟨g1, s1, h1, h2⟩, .pass (x := .inLoop c) rfl (fun _ _ => .inl (by simp)) harr⟩
   | panic ch => exact ⟨_, a₁, w₁, ⟨g1, s1, h1, h2⟩, .pass (x := .inLoop c) rfl (fun _ _ => .inl (by simp)) harr⟩
   | outgrown => exact ⟨_, a₁, w₁, ⟨g1, s1, h1, h2⟩, .pass (x := .inLoop c) rfl (fun _ _ => .inl (by simp)) harr⟩
 obtain ⟨e, a', w', hq, harr⟩ := key _ x0 rfl g0 a w hs0
 exact ⟨e, a', w', hq, .of_steps (.one step_loop) harr⟩
def lookD : List (Nat × AV) → Nat → AV
 | [], _ => .top
 | (u, x) :: l, t => if t = u then x else lookD l t
def mkS (n base : Nat) (live : List (Nat × AV)) (blocks : List (List AV)) : AState := ⟨lookD live, fun _ => none, n, base, blocks⟩
theorem le_lookD {f : Nat → AV} : ∀ (live : List (Nat × AV)), (∀ q, q ∈ live → leAV (f q.1) q.2) → ∀ t, leAV (f t) (lookD live t)
 | [], _, t => by simp [lookD]
 | (u, x) :: l, h, t => by
  simp only [lookD]
  split
  ·rename_i e; subst e; exact h (t, x) (List.mem_cons_self ..)
  ·exact le_lookD l (fun q hq => h q (List.mem_cons_of_mem _ hq)) t
theorem zIg {m : Nat} : ∀ (live : List (Nat × AV)), (∀ q, q ∈ live → q.2.under m = true) → ∀ t, (lookD live t).under m = true
 | [], _, t => by simp [lookD, AV.under]
 | (u, x) :: l, h, t => by
  simp only [lookD]
  split
  ·exact h (u, x) (List.mem_cons_self ..)
  ·exact zIg l (fun q hq => h q (List.mem_cons_of_mem _ hq)) t
@[simp] def leCells : List AV → List AV → Prop
 | [], [] => True
 | x :: l, y :: l' => leAV x y ∧ (y.one = true ∨ x = y) ∧ leCells l l'
 | _, _ => False
@[simp] def leBlocks : List (List AV) → List (List AV) → Prop
 | _, [] => True
 | x :: l, y :: l' => leCells x y ∧ leBlocks l l'
 | [], _ :: _ => False
theorem leCells.get : ∀ {l l' : List AV}, leCells l l' → l.length = l'.length ∧ ∀ (o : Nat) x', l'[o]? = some x' → ∃ x, l[o]? = some x ∧ leAV x x' ∧ (x'.one = true ∨ x = x')
 | [], [], _ => ⟨rfl, fun o x' h => by simp at h⟩
 | x :: l, y :: l', h => by
  obtain ⟨h1, h2, h3⟩ := h
  obtain ⟨h4, h5⟩ := leCells.get h3
  refine ⟨by simp [h4], fun o x' hx => ?_⟩
  cases o with
  | zero => simp at hx; subst hx; exact ⟨x, rfl, h1, h2⟩
  | succ o => simpa using h5 o x' (by simpa using hx)
 | [], _ :: _, h => h.elim
 | _ :: _, [], h => h.elim
theorem leBlocks.get : ∀ {l l' : List (List AV)}, leBlocks l l' → l'.length ≤ l.length ∧ ∀ (b : Nat) blk', l'[b]? = some blk' → ∃ blk, l[b]? = some blk ∧ leCells blk blk'
 | l, [], _ => ⟨by simp, fun b blk' h => by simp at h⟩
 | x :: l, y :: l', h => by
  obtain ⟨h1, h2⟩ := h
  obtain ⟨h3, h4⟩ := leBlocks.get h2
  refine ⟨by simp; exact h3, fun b blk' hb => ?_⟩
  cases b with
  | zero => simp at hb; subst hb; exact ⟨x, rfl, h1⟩
  | succ b => simpa using h4 b blk' (by simpa using hb)
 | [], _ :: _, h => h.elim
theorem zIh {m : Nat} {bs : List (List AV)} (h : ∀ blk, blk ∈ bs → AV.underL m blk = true) : AllBelow m bs := fun i j blk x hi hj => zDc (h blk (List.mem_of_getElem? hi)) hj
theorem Le.lit {s : AState} {n base : Nat} {live : List (Nat × AV)} {blocks : List (List AV)} (hn : s.n = n) (hb : s.base = base) (hbl : base ≤ blocks.length)
  (h1 : ∀ q, q ∈ live → leAV (s.get q.1) q.2) (h2 : leBlocks s.blocks blocks)
  (h3 : s.blocks.length = blocks.length ∨ ((∀ q, q ∈ live → q.2.under blocks.length = true) ∧ ∀ blk, blk ∈ blocks → AV.underL blocks.length blk = true)) : s.Le (mkS n base live blocks) where
 tmps := le_lookD live h1
 loans := fun t => rfl
 n := hn.symm
 base := hb.symm
 hbase := by rw [hb]; exact hbl
 short := h2.get.1
 blocks := fun b blk' hb' => by
  obtain ⟨blk, e1, e2⟩ := h2.get.2 b blk' hb'
  exact ⟨blk, e1, e2.get.1, e2.get.2⟩
 below := by
  rcases h3 with h3 | ⟨h3, h4⟩
  ·exact .inl h3.symm
  ·exact .inr ⟨zIg live h3, zIh h4⟩
def absRes1 (P : Program) (s : AState) : ResultVar → Option (Prop × AV)
 | .tmp t => some (True, (s.get t).copy)
 | .cell a t => match s.get a with
  | .mptr b o => loadV P t ((s.blocks.getD b []).drop o)
  | _ => none
def zHV (P : Program) (s : AState) : List ResultVar → Option (Prop × List AV)
 | [] => some (True, [])
 | r :: l => match absRes1 P s r, zHV P s l with
  | some (c, x), some (c', xs) => some (c ∧ c', x :: xs)
  | _, _ => none
def oneOf : List AV → AV
 | [x] => x
 | l => .tup l
def resSem (tmps : Array Value) : ResultVar → Sem Value
 | .tmp t => pure (tmps.getD t undef)
 | .cell b t => do loadVar t (← asAddr (tmps.getD b undef))
theorem results_eq (fn : Func) (tmps : Array Value) : results fn tmps = (do let vs ← fn.results.mapM (resSem tmps); pure (if h : vs.size = 1 then vs[0] else .tuple vs)) := by
 unfold results
 congr 1
theorem res1_ok {P : Program} {F : Fx} {g : Gh} {s : AState} {a : Act} {w : World} (h : Sim F g s a w) {r : ResultVar} {c : Prop} {x : AV} (hr : absRes1 P s r = some (c, x)) (hc : c) :
  ∃ v, (resSem a.tmps r).run P w = .ok v w ∧ Rep g.imm g.σ x v := by
 cases r with
 | tmp t =>
  simp only [absRes1, Option.some.injEq, Prod.mk.injEq] at hr
  obtain ⟨rfl, rfl⟩ := hr
  exact ⟨_, rfl, (h.tmps t).1.copy⟩
 | cell b t =>
  simp only [absRes1] at hr
  split at hr
  ·rename_i bb off hx
   have he := (h.tmps b).1
   have hx' : s.tmps b = .mptr bb off := hx
   rw [hx'] at he
   cases hv : a.tmps.getD b undef with
   | pointer p =>
    rw [hv] at he
    cases he with
    | mptr _ _ k hk =>
     have hcell : ∀ (j : Nat) y, ((s.blocks.getD bb []).drop off)[j]? = some y → ∃ u, w.cell? ((⟨k, off, none⟩ : Addr).add j) = some u ∧ Rep g.imm g.σ y u := fun j y hy => by
      rw [List.getElem?_drop] at hy
      obtain ⟨u, h1, h2, _⟩ := h.cell hy hk
      exact ⟨u, by rw [add_mk]; exact h1, h2⟩
     obtain ⟨u, h1, h2, h3, h4⟩ := loadV_ok (imm := g.imm) (σ := g.σ) (w := w) (b := ⟨k, off, none⟩)
      (vs := fun j => (w.cell? ((⟨k, off, none⟩ : Addr).add j)).getD undef) hr hc
      (fun j y hy => by obtain ⟨u, hu, _⟩ := hcell j y hy; rw [hu]; rfl) (fun j y hy => by obtain ⟨u, hu, hr⟩ := hcell j y hy; rw [hu]; exact hr)
     exact ⟨u, by simp only [resSem, Sem.run_bind, hv, asAddr, Sem.run_pure, Result.andThen_ok, h1], h2⟩
   | _ => rw [hv] at he; cases he
  ·cases hr
theorem resL_ok {P : Program} {F : Fx} {g : Gh} {s : AState} {a : Act} {w : World} (h : Sim F g s a w) : ∀ (l : List ResultVar) (c : Prop) (xs : List AV), zHV P s l = some (c, xs) → c →
  ∃ vs : List Value, (l.mapM (resSem a.tmps)).run P w = .ok vs w ∧
   vs.length = xs.length ∧ ∀ (i : Nat) x, xs[i]? = some x → ∃ v, vs[i]? = some v ∧ Rep g.imm g.σ x v := by
 intro l
 induction l with
 | nil =>
  intro c xs hl hc
  simp only [zHV, Option.some.injEq, Prod.mk.injEq] at hl
  obtain ⟨rfl, rfl⟩ := hl
  exact ⟨[], by simp, rfl, fun i x hx => by simp at hx⟩
 | cons r l ih =>
  intro c xs hl hc
  simp only [zHV] at hl
  split at hl
  ·rename_i c1 x c2 xs' h1 h2
   simp only [Option.some.injEq, Prod.mk.injEq] at hl
   obtain ⟨rfl, rfl⟩ := hl
   obtain ⟨v, e1, e2⟩ := res1_ok h h1 hc.1
   obtain ⟨vs, f1, f2, f3⟩ := ih c2 xs' h2 hc.2
   refine ⟨v :: vs, ?_, by simp [f2], fun i y hy => ?_⟩
   ·simp only [List.mapM_cons, Sem.run_bind, e1, Result.andThen_ok, f1, Sem.run_pure]
   ·cases i with
    | zero => simp at hy; subst hy; exact ⟨v, rfl, e2⟩
    | succ i => simpa using f3 i y (by simpa using hy)
  ·cases hl
theorem results_ok {P : Program} {F : Fx} {g : Gh} {s : AState} {a : Act} {w : World} (h : Sim F g s a w) {fn : Func} {c : Prop} {xs : List AV} (hr : zHV P s fn.results.toList = some (c, xs)) (hc : c) :
  ∃ v, (results fn a.tmps).run P w = .ok v w ∧ Rep g.imm g.σ (oneOf xs) v := by
 obtain ⟨vs, h1, h2, h3⟩ := resL_ok h _ c xs hr hc
 have hrun : (fn.results.mapM (resSem a.tmps)).run P w = .ok vs.toArray w := by
  rw [Array.mapM_eq_mapM_toList]
  simp only [Sem.run_map, h1, Result.andThen_ok]
 rw [results_eq]
 simp only [Sem.run_bind]
 refine ⟨if h : vs.toArray.size = 1 then vs.toArray[0] else .tuple vs.toArray, ?_, ?_⟩
 ·have := hrun
  simp only [hrun, Result.andThen_ok, Sem.run_pure]
 ·cases xs with
  | nil =>
   have : vs = [] := by simpa using h2
   subst this
   simpa [oneOf] using Rep.tup (imm := g.imm) (σ := g.σ) [] #[] rfl (by simp)
  | cons x xs =>
   cases xs with
   | nil =>
    obtain ⟨v, hv, hr⟩ := h3 0 x rfl
    match vs, h2, hv with
    | [u], _, hv =>
     simp at hv; subst hv
     simpa [oneOf] using hr
   | cons y xs =>
    have hne : vs.toArray.size ≠ 1 := by simp [h2]
    rw [dif_neg hne]
    refine .tup _ _ (by simp [h2]) fun i z hz => ?_
    obtain ⟨v, hv, hr⟩ := h3 i z hz
    rw [Array.getD_eq_getD_getElem?, List.getElem?_toArray, hv]; exact hr
def Ret (P : Program) (fn : Func) (R : AV → AState → Prop) : Exit → AState → Prop
 | .normal, s | .ret, s => match zHV P s fn.results.toList with
  | some (c, xs) => c ∧ R (oneOf xs).normR s
  | none => False
 | _, _ => False
def start (n base : Nat) (args : List AV) (bs : List (List AV)) : AState := ⟨fun t => args.getD t (.tup []), fun _ => none, n, base, bs⟩
theorem start_tmps {imm : Addr → Option Value} {σ : List Nat} {args : List AV} {vals : Array Value} (h : RepL imm σ args vals) (n t : Nat) :
  Rep imm σ (args.getD t (.tup [])) ((vals ++ Array.replicate n undef).getD t undef) := by
 by_cases ht : t < args.length
 ·have h1 := h.2 t _ (zEX (.tup []) ht)
  rwa [Array.getD_eq_getD_getElem?, Array.getElem?_append_left (by rw [h.1]; exact ht), ← Array.getD_eq_getD_getElem?]
 ·rw [List.getD_eq_getElem?_getD, List.getElem?_eq_none (by omega), Array.getD_eq_getD_getElem?, Array.getElem?_append_right (by rw [h.1]; omega)]
  have : ((Array.replicate n undef)[t - vals.size]?).getD undef = undef := by
   rw [Array.getElem?_replicate]; split <;> rfl
  rw [this]
  exact .tup [] #[] rfl (by simp)
theorem owns_getD {args : List AV} (h : args.all (fun x => !x.owns) = true) (t : Nat) : (args.getD t (.tup [])).owns = false := by
 by_cases ht : t < args.length
 ·have := all_get h (zEX (.tup []) ht)
  simpa using this
 ·rw [List.getD_eq_getElem?_getD, List.getElem?_eq_none (by omega)]; rfl
theorem sim_start {g : Gh} {w : World} {n : Nat} {args : List AV} {bs : List (List AV)} {vals : Array Value} (hs : Sto g bs w) (h0 : ∀ t, g.own (.tmp t) = none) (ha : RepL g.imm g.σ args vals)
  (hn : args.length ≤ n) (hown : args.all (fun x => !x.owns) = true) (htg : TG g w) :
  Sim ⟨w, g⟩ g (start n bs.length args bs) { tmps := vals ++ Array.replicate (n - vals.size) undef, defers := [] } w where
 ext := Ext.refl' w g (fun k hk => hs.σ_lt hk) h0 htg
 sto := hs
 size := by simp [start, ha.1]; omega
 tmps := fun t => ⟨start_tmps ha _ t, OwnsBy.of_not (owns_getD hown t)⟩
 loans := fun t p hp => by cases hp
 defers := rfl
 base := by simp [start, hs.len]
theorem body_ok {P : Program} {f : FuncId} {fn : Func} {c : Code} {args : List AV} {bs : List (List AV)} {R : AV → AState → Prop} (hf : P.funcs[f]? = some fn) (hb : fn.body = some c)
  (hn : args.length ≤ fn.ntmps) (hown : args.all (fun x => !x.owns) = true) (h : AWp P c (Ret P fn R) (start fn.ntmps bs.length args bs))
  {g : Gh} {w : World} {vals : Array Value} (hs : Sto g bs w) (h0 : ∀ t, g.own (.tmp t) = none) (htg : TG g w) (ha : RepL g.imm g.σ args vals) :
  Calls P f vals w fun e w' => ∃ g' s' a' v r, e = .returned v ∧ Sim ⟨w, g⟩ g' s' a' w' ∧ Rep g'.imm g'.σ r v ∧ R r s' := by
 refine calls_of_wp hf hb (wp_mono (h ⟨w, g⟩ g _ w (sim_start hs h0 ha hn hown htg)) fun e a' w' ⟨g', s', h1, h2⟩ => ?_)
 have key : (match zHV P s' fn.results.toList with | some (c, xs) => c ∧ R (oneOf xs).normR s' | none => False) →
   a'.defers = [] ∧ ∃ v, (results fn a'.tmps).run P w' = .ok v w' ∧ ∃ g2 s2 a2 v2 r, Ending.returned v = .returned v2 ∧ Sim ⟨w, g⟩ g2 s2 a2 w' ∧ Rep g2.imm g2.σ r v2 ∧ R r s2 := fun h2 => by
  split at h2
  ·rename_i c xs hr
   obtain ⟨v, e1, e2⟩ := results_ok h1 hr h2.1
   exact ⟨h1.defers, v, e1, g', s', a', v, _, rfl, h1, e2.normR, h2.2⟩
  ·exact h2.elim
 cases e with
 | normal => exact key h2
 | ret => exact key h2
 | _ => exact h2.elim
theorem zAO {P : Program} {f : FuncId} {fn : Func} {c : Code} {args : List AV} {res : AV} (hf : P.funcs[f]? = some fn) (hname : (fn.name == "runtime.NumGoroutine") = false) (hb : fn.body = some c)
  (hn : args.length ≤ fn.ntmps) (hown : args.all (fun x => !x.owns) = true) (hres : res.flat = true) (h : AWp P c (Ret P fn fun r _ => r = res) (start fn.ntmps 0 args [])) : Pure P f args res := by
 refine ⟨⟨fn, hf, hname, by rw [hb]; rfl⟩, fun imm w vals him hgl htb ha => ?_⟩
 have hs : Sto ⟨imm, [], fun _ => none⟩ [] w := {
  gok := hgl
  imm := him
  immσ := fun x v _ hm => by cases hm
  len := rfl
  nodup := List.nodup_nil
  blk := fun i b k hb _ => by simp at hb
  ownσ := fun p k hk => by cases hk
  ownInj := fun p q k hk => by cases hk }
 refine (body_ok (bs := []) hf hb hn hown h hs (fun _ => rfl) ⟨htb, fun k hk => (by cases hk), fun p k hk => by cases hk⟩ ha).mono fun e w' => ?_
 rintro ⟨g', s', a', v, r, rfl, h1, h2, rfl⟩
 have hT : ∀ k, ¬ (⟨w, ⟨imm, [], fun _ => none⟩⟩ : Fx).T k := fun k hk => by
  rcases hk with hk | ⟨b, o, hk⟩
  ·cases hk
  ·cases hk
 refine ⟨g'.imm, v, rfl, h2.flat hres, h1.ext.imm, h1.sto.imm, ⟨h1.ext.os, h1.ext.tape, h1.ext.output, h1.ext.size, fun k hk => h1.ext.keep k hk (hT k)⟩, fun x u hx => ?_⟩
 rcases h1.ext.immNew x u hx with h3 | h3 | h3
 ·exact .inl h3
 ·exact .inr h3
 ·exact (hT _ h3).elim
def endS (s : AState) (bs : List (List AV)) : AState := ⟨fun _ => .top, fun _ => none, s.n, s.base, bs⟩
def Good (bs : List (List AV)) : Prop := ∀ (i j : Nat) blk x, bs[i]? = some blk → blk[j]? = some x → (x.one = true ∨ ∃ t b, x = .baddr t b) ∧ x.under bs.length = true
theorem Sto.good {g : Gh} {bs : List (List AV)} {w : World} (h : Sto g bs w) : Good bs := fun i j blk x hi hj => by
 have hl : i < g.σ.length := by rw [h.len]; exact (List.getElem?_eq_some_iff.1 hi).1
 obtain ⟨c, ty, h1, h2, h3⟩ := h.blk i blk _ hi (List.getElem?_eq_getElem hl)
 obtain ⟨e1, e2, e3⟩ := h3 j x hj
 exact ⟨e1.elim .inl fun ⟨b, e1⟩ => .inr ⟨_, _, e1⟩, by rw [← h.len]; exact e2.isUnder⟩
theorem raw_of_body {P : Program} {f : FuncId} {fn : Func} {c : Code} {args : List AV} {bs bs' : List (List AV)} {res : AV} (hf : P.funcs[f]? = some fn) (hname : (fn.name == "runtime.NumGoroutine") = false) (hb : fn.body = some c)
  (hn : args.length ≤ fn.ntmps) (hown : args.all (fun x => !x.owns) = true)
  (h : Good bs → AWp P c (Ret P fn fun r s => r = res ∧ s.Le (endS s bs') ∧ (bs'.length = s.blocks.length ∨ res.under bs'.length = true)) (start fn.ntmps bs.length args bs)) : Raw P f args bs res bs' := by
 refine ⟨⟨fn, hf, hname, by rw [hb]; rfl⟩, fun g w vals hs h0 htg ha => ?_⟩
 refine (body_ok hf hb hn hown (h hs.good) hs h0 htg ha).mono fun e w' => ?_
 rintro ⟨g', s', a', v, r, rfl, h1, h2, rfl, h3, h4⟩
 have hlen : bs'.length ≤ g'.σ.length := by rw [h1.sto.len]; exact h3.short
 obtain ⟨g2, h5, h6, h7⟩ : ∃ g2, Sim ⟨w, g⟩ g2 (endS s' bs') a' w' ∧ g2.imm = g'.imm ∧ g2.σ = g'.σ.take bs'.length := by
  obtain ⟨g2, h5⟩ := h1.le' h3
  exact ⟨g2, h5⟩
 refine ⟨{ g2 with own := fun p => match p with | .tmp _ => none | q => g2.own q }, v, rfl, ?_, h5.callee, ?_, fun t => rfl⟩
 ·rcases h4 with h4 | h4
  ·have : g2.σ = g'.σ := by rw [h7, zGc (by rw [h1.sto.len]; exact h4)]
   show Rep g2.imm g2.σ r v
   rw [h6, this]; exact h2
  ·show Rep g2.imm g2.σ r v
   rw [h6, h7]; exact h2.under _ h4
 ·exact { h5.ext with
   imm := h5.ext.imm
   immNew := h5.ext.immNew
   mineσ := h5.ext.mineσ
   mineOwn := fun p k hk => by
    cases p with
    | tmp t => cases hk
    | cell b o => exact h5.ext.mineOwn _ k hk }
def AState.upd (s : AState) (d : Nat) (y : AV) (m : Option Place) : AState :=
 { s with tmps := fun t => if t = d then y else s.tmps t, loans := fun t => if t = d then m else s.loans t }
def zFU (xs : List Operand) : List Nat := xs.filterMap fun | .tmp t => some t | _ => none
def zD4 : Op → List Nat
 | .call c => zFU ((match c.callee with | .value f => [f] | .invoke r _ => [r] | .builtin _ => []) ++ c.args.toList)
 | .build _ ps | .buildSlice _ _ ps => zFU (ps.toList.map (·.2))
 | .makeFunc _ first captured => zFU (first.toList ++ captured.toList)
 | .move x | .assign x | .box _ x | .load _ x | .nilCheck x | .unOp _ _ x | .convert _ _ x | .makeInterface _ x | .fieldAddr _ x _ | .extract x _ => zFU [x]
 | .pick c a b => zFU [c, a, b]
 | .store _ a v | .makeSlice _ a v | .binOp _ _ a v _ | .indexAddr _ a v | .index _ a v => zFU [a, v]
 | .slice _ x l h _ => zFU (x :: (l.toList ++ h.toList))
 | _ => []
theorem zGs {xs : List Operand} {t : Nat} (h : Operand.tmp t ∈ xs) : t ∈ zFU xs := List.mem_filterMap.2 ⟨_, h, rfl⟩
section
variable (s : AState) (d : Nat) (y : AV) (m : Option Place)
theorem ev_upd {x : Operand} (h : x ≠ .tmp d) : (s.upd d y m).ev x = s.ev x := by
 cases x with
 | tmp t =>
  show (if t = d then y else s.tmps t) = s.tmps t
  rw [if_neg (fun e => h (by rw [e]))]
 | _ => rfl
theorem zB1 {x : Operand} (h : x ≠ .tmp d) : (s.upd d y m).look x = s.look x := by
 unfold AState.look; rw [ev_upd s d y m h]
theorem get_upd {t : Nat} (h : t ≠ d) : (s.upd d y m).get t = s.get t := by
 show (if t = d then y else s.tmps t) = s.tmps t
 rw [if_neg h]
def AState.free (s : AState) (d : Nat) : Prop := ∀ t, s.loans t ≠ some (.tmp d)
theorem at_upd {p : Place} (h : p ≠ .tmp d) : (s.upd d y m).at p = s.at p := by
 cases p with
 | tmp t => exact get_upd s d y m (fun e => h (by rw [e]))
 | cell b o => rfl
theorem zGB {t : Nat} (h : t ≠ d) (hf : s.free d) : (s.upd d y m).owner t = s.owner t := by
 unfold AState.owner
 rw [get_upd s d y m h]
 have hl : (s.upd d y m).loans t = s.loans t := by
  show (if t = d then m else s.loans t) = _
  rw [if_neg h]
 rw [hl]
 split
 ·rfl
 ·cases hp : s.loans t with
  | none => rfl
  | some p =>
   simp only
   rw [at_upd s d y m (fun e => hf t (by rw [hp, e]))]
theorem degrade_upd {p : Place} (h : p ≠ .tmp d) : (s.upd d y m).degrade p = (s.degrade p).upd d y m := by
 cases p with
 | tmp t =>
  have ht : t ≠ d := fun e => h (by rw [e])
  simp only [AState.degrade, AState.upd, AState.mk.injEq, and_true, true_and]
  funext u
  by_cases e : u = t
  ·subst e; simp [ht]
  ·simp [e]
 | cell b o => rfl
theorem zIU {t : Nat} {p : Place} (h : s.owner t = some p) : p = .tmp t ∨ s.loans t = some p := by
 unfold AState.owner at h
 split at h
 ·cases h; exact .inl rfl
 ·split at h
  ·rename_i q hq
   split at h
   ·cases h; exact .inr hq
   ·cases h
  ·cases h
theorem zIj {x : Operand} (h : x ≠ .tmp d) (hf : s.free d) : (s.upd d y m).takeV x = s.takeV x := by
 cases x with
 | tmp t =>
  have ht : t ≠ d := fun e => h (by rw [e])
  simp only [AState.takeV, zGB s d y m ht hf, get_upd s d y m ht]
  cases ho : s.owner t with
  | none => rfl
  | some p =>
   simp only
   refine at_upd s d y m fun e => ?_
   rcases zIU s ho with h1 | h1
   ·rw [e] at h1; cases h1; exact ht rfl
   ·exact hf t (by rw [h1, e])
 | _ => rfl
theorem zIk {x : Operand} (h : x ≠ .tmp d) (hf : s.free d) : (s.upd d y m).takeS x = (s.takeS x).upd d y m := by
 cases x with
 | tmp t =>
  have ht : t ≠ d := fun e => h (by rw [e])
  simp only [AState.takeS, zGB s d y m ht hf]
  cases ho : s.owner t with
  | none => rfl
  | some p =>
   simp only
   refine degrade_upd s d y m fun e => ?_
   rcases zIU s ho with h1 | h1
   ·rw [e] at h1; cases h1; exact ht rfl
   ·exact hf t (by rw [h1, e])
 | _ => rfl
def notCell (m : Option Place) : Prop := ∀ b o, m ≠ some (.cell b o)
theorem zIN (b o : Nat) (x : AV) (hm : ∀ o, m ≠ some (.cell b o)) : (s.upd d y m).setCell b o x = (s.setCell b o x).upd d y m := by
 simp only [AState.setCell, AState.upd, AState.mk.injEq, and_true, true_and]
 funext t
 by_cases e : t = d
 ·subst e; simp [hm o]
 ·simp [e]
theorem zHs (b : Nat) (hm : ∀ o, m ≠ some (.cell b o)) : ∀ (xs : List AV) (o : Nat) (s : AState), (s.upd d y m).setCells b o xs = (s.setCells b o xs).upd d y m
 | [], o, s => rfl
 | x :: xs, o, s => by
  simp only [AState.setCells]
  rw [zIN s d y m b o x hm]
  exact zHs b hm xs (o + 1) _
theorem push_upd (blk : List AV) : (s.upd d y m).push blk = (s.push blk).upd d y m := rfl
theorem put_upd {e : Nat} (x : AV) (he : e ≠ d) (hm : m ≠ some (.tmp e)) : (s.upd d y m).put e x = (s.put e x).upd d y m := by
 have hn : (s.upd d y m).n = s.n := rfl
 unfold AState.put
 rw [hn]
 split
 ·simp only [AState.upd, AState.mk.injEq, and_true, true_and]
  constructor
  ·funext t
   by_cases h1 : t = e
   ·subst h1; simp [he]
   ·simp [h1]
  ·funext t
   by_cases h1 : t = d
   ·subst h1; simp [Ne.symm he, hm]
   ·simp [h1]
 ·rfl
theorem putL_upd {e : Nat} (x : AV) (l : Option Place) (he : e ≠ d) (hm : m ≠ some (.tmp e)) : (s.upd d y m).putL e x l = (s.putL e x l).upd d y m := by
 unfold AState.putL
 cases l with
 | none => exact put_upd s d y m x he hm
 | some p =>
  have hn : (s.upd d y m).n = s.n := rfl
  simp only [hn]
  split
  ·exact put_upd s d y m x he hm
  ·rw [put_upd s d y m x he hm]
   simp only [AState.upd, AState.mk.injEq, and_true, true_and]
   funext t
   by_cases h1 : t = e
   ·subst h1; simp [he]
   ·simp [h1]
theorem putO_upd {e : Option Nat} (x : AV) (he : ∀ k, e = some k → k ≠ d ∧ m ≠ some (.tmp k)) : (s.upd d y m).putO e x = (s.putO e x).upd d y m := by
 cases e with
 | none => rfl
 | some k => exact put_upd s d y m x (he k rfl).1 (he k rfl).2
theorem put_eq_upd {x : AV} (hd : d < s.n) (hf : s.free d) : s.put d x = s.upd d x none := by
 unfold AState.put
 rw [if_pos hd]
 simp only [AState.upd, AState.mk.injEq, and_true, true_and]
 funext t
 by_cases h1 : t = d
 ·simp [h1]
 ·simp [h1, hf t]
theorem zGA {x : AV} {l : Option Place} (hd : d < s.n) (hf : s.free d) (hl : l ≠ some (.tmp d)) : s.putL d x l = s.upd d x l := by
 unfold AState.putL
 cases l with
 | none => exact put_eq_upd s d hd hf
 | some p =>
  have hne : ¬ (p = .tmp d ∨ s.n ≤ d) := fun h => by
   rcases h with h | h
   ·exact hl (by rw [h])
   ·omega
  simp only [if_neg hne]
  rw [put_eq_upd s d hd hf]
  simp only [AState.upd, AState.mk.injEq, and_true, true_and]
  funext t
  by_cases h1 : t = d
  ·simp [h1]
  ·simp [h1]
end
def Res.upd (r : Res) (d : Nat) (y : AV) (m : Option Place) : Res := { r with st := r.st.upd d y m }
theorem zAj {xs : List Operand} {d : Nat} (h : d ∉ zFU xs) {x : Operand} (hx : x ∈ xs) : x ≠ .tmp d := fun e => h (zGs (by rw [← e]; exact hx))
theorem map_look_upd (s : AState) (d : Nat) (y : AV) (m : Option Place) {xs : List Operand} (h : d ∉ zFU xs) (f : AV → AV) : (xs.map fun x => f ((s.upd d y m).look x)) = xs.map fun x => f (s.look x) := by
 apply List.map_congr_left
 intro x hx
 rw [zB1 s d y m (zAj h hx)]
def isStore : Op → Bool
 | .store .. => true
 | _ => false
def okM (op : Op) (s : AState) (m : Option Place) : Prop := ∀ t x y, op = .store t x y → ∀ b off, s.ev x = .mptr b off → ∀ o, m ≠ some (.cell b o)
theorem absOp_upd (P : Program) (s : AState) (d : Nat) (y : AV) (m : Option Place) (op : Op) (hm : okM op s m) (hf : s.free d) (h : d ∉ zD4 op) :
  zHc P (s.upd d y m) op = (zHc P s op).map fun r => r.upd d y m := by
 have hb : (s.upd d y m).blocks = s.blocks := rfl
 cases op <;> simp only [zD4] at h <;> simp only [zHc, Option.map_none, Option.map_some]
 case move x =>
  have hx := zAj h (List.mem_cons_self ..)
  simp only [zIQ, Res.upd, zB1 s d y m hx]
  congr 2
  cases x with
  | tmp t =>
   have ht : t ≠ d := fun e => hx (by rw [e])
   simp only [AState.loanOf, get_upd s d y m ht]
  | _ => rfl
 case assign x =>
  have hx := zAj h (List.mem_cons_self ..)
  simp only [zGk, Res.upd, zIj s d y m hx hf, zIk s d y m hx hf]
 case pick c a b =>
  simp only [zHw, Res.upd, zB1 s d y m (zAj h (x := c) (by simp)), zB1 s d y m (zAj h (x := a) (by simp)), zB1 s d y m (zAj h (x := b) (by simp))]
 case alloc t =>
  unfold zHB
  split
  ·split
   ·simp only [resNew, hb, push_upd, Option.map_some, Res.upd]
   ·rfl
  ·rfl
 case box t x =>
  have hx := zAj h (List.mem_cons_self ..)
  simp only [resBox, resNew, Res.upd, zB1 s d y m hx, hb, push_upd]
 case build t parts =>
  have hp : (parts.toList.map fun q => (q.1, (s.upd d y m).look q.2)) = parts.toList.map fun q => (q.1, s.look q.2) := by
   apply List.map_congr_left
   intro q hq
   rw [zB1 s d y m (zAj h (List.mem_map.2 ⟨q, hq, rfl⟩))]
  unfold zHA
  rw [hp]
  split
  ·split
   ·split <;> rfl
   ·rfl
  ·split
   ·split <;> rfl
   ·rfl
  ·rfl
 case buildSlice t n parts =>
  have hp : ∀ q, q ∈ parts.toList → (s.upd d y m).look q.2 = s.look q.2 := fun q hq => zB1 s d y m (zAj h (List.mem_map.2 ⟨q, hq, rfl⟩))
  have hp1 : (parts.toList.map fun q => ((s.upd d y m).look q.2).norm.cells) = parts.toList.map fun q => (s.look q.2).norm.cells := List.map_congr_left fun q hq => by rw [hp q hq]
  have hp2 : (parts.toList.all fun q => ((s.upd d y m).look q.2).solid) = parts.toList.all fun q => (s.look q.2).solid := by
   rw [Bool.eq_iff_iff, List.all_eq_true, List.all_eq_true]
   exact ⟨fun h q hq => by rw [← hp q hq]; exact h q hq, fun h q hq => by rw [hp q hq]; exact h q hq⟩
  unfold zEL
  rw [hp1, hp2]
  split
  ·split
   ·split <;> rfl
   ·rfl
  ·rfl
 case makeSlice t l c =>
  have hx := zAj h (x := l) (by simp)
  have hz := zAj h (x := c) (by simp)
  unfold zIR
  rw [zB1 s d y m hx, zB1 s d y m hz]
  split
  ·split
   ·split
    ·split <;> rfl
    ·rfl
   ·rfl
  ·rfl
 case load t x =>
  have hx := zAj h (List.mem_cons_self ..)
  unfold zGj
  rw [zB1 s d y m hx, hb]
  split
  ·split <;> rfl
  ·split <;> rfl
  ·rfl
 case store t x z =>
  have hx := zAj h (x := x) (by simp)
  have hz := zAj h (x := z) (by simp)
  unfold zGT
  rw [ev_upd s d y m hx, zIj s d y m hz hf, zIk s d y m hz hf, hb]
  split
  ·rename_i b off i hev hi
   have hm := hm t x z rfl b off hev
   split
   ·simp only [Option.map_some, Res.upd, zIN _ d y m _ _ _ hm]
   ·simp only [Option.map_some, Res.upd, zHs d y m _ hm]
  ·rfl
 case nilCheck x =>
  unfold zFB
  rw [zB1 s d y m (zAj h (List.mem_cons_self ..))]
  split <;> rfl
 case binOp op t x z t' =>
  unfold resBin
  rw [zB1 s d y m (zAj h (x := x) (by simp)), zB1 s d y m (zAj h (x := z) (by simp))]
  split <;> rfl
 case unOp op t x =>
  unfold resUn
  rw [zB1 s d y m (zAj h (List.mem_cons_self ..))]
  split <;> rfl
 case convert src dst x =>
  unfold zIS
  rw [zB1 s d y m (zAj h (List.mem_cons_self ..))]
  split <;> first | rfl | (split <;> rfl)
 case makeInterface t x =>
  unfold zG9
  rw [zB1 s d y m (zAj h (List.mem_cons_self ..))]
  split <;> rfl
 case makeFunc f first captured =>
  have h1 : (first.toList.map (s.upd d y m).look) = first.toList.map s.look := List.map_congr_left fun x hx => zB1 s d y m (zAj h (List.mem_append_left _ hx))
  have h2 : (captured.toList.map (s.upd d y m).look) = captured.toList.map s.look := List.map_congr_left fun x hx => zB1 s d y m (zAj h (List.mem_append_right _ hx))
  simp only [resFunc, Res.upd, h1, h2]
 case slice t x lo hi mx =>
  cases mx with
  | some z => rfl
  | none =>
   have hbd : ∀ (D : Int) (z : Option Operand), (∀ q, z = some q → q ≠ .tmp d) → bound (s.upd d y m) D z = bound s D z := fun D z hz => by
    cases z with
    | none => rfl
    | some q => simp only [bound, zB1 s d y m (hz q rfl)]
   have h1 := zAj h (List.mem_cons_self ..)
   have hlo : ∀ q, lo = some q → q ≠ .tmp d := fun q hq => zAj h (by subst hq; simp)
   have hhi : ∀ q, hi = some q → q ≠ .tmp d := fun q hq => zAj h (by subst hq; simp)
   simp only
   unfold zG7
   rw [zB1 s d y m h1]
   split
   ·split
    ·rw [hbd _ lo hlo, hbd _ hi hhi]
     split <;> rfl
    ·rfl
   ·split
    ·rw [hbd _ lo hlo, hbd _ hi hhi]
     split <;> rfl
    ·rfl
   ·rfl
 case fieldAddr t x f =>
  unfold zEo
  rw [zB1 s d y m (zAj h (List.mem_cons_self ..))]
  split
  ·split
   ·split <;> rfl
   ·rfl
  ·rfl
 case indexAddr t x i =>
  unfold zEn
  rw [zB1 s d y m (zAj h (x := x) (by simp)), zB1 s d y m (zAj h (x := i) (by simp))]
  split
  ·split <;> rfl
  ·rfl
 case index t x i =>
  unfold zG8
  rw [zB1 s d y m (zAj h (x := x) (by simp)), zB1 s d y m (zAj h (x := i) (by simp))]
  split
  ·split <;> rfl
  ·split <;> rfl
  ·rfl
 case extract x i =>
  unfold zFX
  rw [zB1 s d y m (zAj h (List.mem_cons_self ..))]
  split
  ·split <;> rfl
  ·rfl
 case call c =>
  obtain ⟨callee, args, argTypes⟩ := c
  cases callee with
  | value f => rfl
  | invoke r n => rfl
  | builtin b =>
   simp only [List.nil_append] at h
   simp only [zE1]
   split
   ·rename_i x hx
    rw [hx] at h
    unfold resLen
    rw [zB1 s d y m (zAj h (List.mem_cons_self ..))]
    split
    ·split
     ·rfl
     ·split <;> rfl
     ·rfl
    ·rfl
   ·rename_i x z hx
    rw [hx] at h
    have h1 := zAj h (x := x) (by simp)
    have h2 := zAj h (x := z) (by simp)
    unfold zF8
    rw [zIj s d y m h1 hf, zIk s d y m h1 hf, zB1 s d y m h2]
    split
    ·split
     ·split
      ·split <;> rfl
      ·rfl
     ·rfl
    ·rfl
   ·rename_i x z hx
    rw [hx] at h
    have h1 := zAj h (x := x) (by simp)
    have h2 := zAj h (x := z) (by simp)
    unfold resMM
    rw [zB1 s d y m h1, zB1 s d y m h2]
    split
    ·split <;> rfl
    ·rfl
   ·rename_i x z hx
    rw [hx] at h
    have h1 := zAj h (x := x) (by simp)
    have h2 := zAj h (x := z) (by simp)
    unfold resMM
    rw [zB1 s d y m h1, zB1 s d y m h2]
    split
    ·split <;> rfl
    ·rfl
   ·rfl
def Gd (B : List Nat) (s : AState) : Op → Prop
  | .store _ x y => B = [] ∨ ((∃ b off, s.ev x = .mptr b off ∧ b ∈ B) ∧ ∀ t, y = .tmp t → s.owner t = none)
  | .load _ x => B = [] ∨ ∀ b off, s.look x = .mptr b off → b ∉ B
  | .assign x => B = [] ∨ ∀ t, x = .tmp t → s.owner t = none
  | _ => True
theorem gd_upd {B : List Nat} {s : AState} {d : Nat} {y : AV} {m : Option Place} {op : Op} (hf : s.free d) (h : d ∉ zD4 op) : Gd B (s.upd d y m) op ↔ Gd B s op := by
  cases op <;> simp only [Gd, zD4] at h ⊢
  case store t x z =>
    rw [ev_upd s d y m (zAj h (x := x) (by simp))]
    have hz := zAj h (x := z) (by simp)
    constructor
    · rintro (h1 | ⟨h1, h2⟩)
      · exact .inl h1
      · exact .inr ⟨h1, fun t ht => by rw [← zGB s d y m (fun e => hz (by rw [ht, e])) hf]; exact h2 t ht⟩
    · rintro (h1 | ⟨h1, h2⟩)
      · exact .inl h1
      · exact .inr ⟨h1, fun t ht => by rw [zGB s d y m (fun e => hz (by rw [ht, e])) hf]; exact h2 t ht⟩
  case load t x => rw [zB1 s d y m (zAj h (x := x) (by simp))]
  case assign z =>
    have hz := zAj h (x := z) (by simp)
    constructor
    · rintro (h1 | h2)
      · exact .inl h1
      · exact .inr fun t ht => by rw [← zGB s d y m (fun e => hz (by rw [ht, e])) hf]; exact h2 t ht
    · rintro (h1 | h2)
      · exact .inl h1
      · exact .inr fun t ht => by rw [zGB s d y m (fun e => hz (by rw [ht, e])) hf]; exact h2 t ht
def isPut : Op → Bool
  | .store .. | .assign _ => true
  | _ => false
def okL (B : List Nat) (op : Op) (m : Option Place) : Prop := notCell m ∨ isStore op = false ∨ (B ≠ [] ∧ ∀ b o, m = some (.cell b o) → b ∉ B)
theorem okL.okM {B : List Nat} {op : Op} {s : AState} {m : Option Place} (hm : okL B op m) (hg : Gd B s op) : okM op s m := fun t x y e b off hev o hmo => by
  subst e
  rcases hm with h | h | ⟨h1, h2⟩
  · exact h b o hmo
  · simp [isStore] at h
  · rcases hg with h3 | ⟨⟨b', off', h4, h5⟩, _⟩
    · exact h1 h3
    · rw [hev] at h4; cases h4
      exact h2 b o hmo h5
def StepD (P : Program) (B : List Nat) (o : Oper) (s s' : AState) : Prop :=
  (∃ c x f first captured res, o.op = .call c ∧ c.callee = .value x ∧ s.look x = .fn (.func f) first captured ∧ Pure P f (zDi s first captured c.args) res ∧
    AV.flatL (zDi s first captured c.args) = true ∧ res.owns = false ∧ s' = s.putO o.dst res) ∨
  (∃ r, zHc P s o.op = some r ∧ r.side ∧ Gd B s o.op ∧ s' = s.putR o.dst r)
def GStep (P : Program) (B : List Nat) (ops : Array Oper) (o : Oper) (s s' : AState) : Prop :=
  match o.guard with
  | none => StepD P B o s s'
  | some (j, want) => ∃ g, (ops[j]?).bind (·.dst) = some g ∧
    ((∃ b, s.get g = .bool b ∧ ((b = want ∧ StepD P B o s s') ∨ (b = !want ∧ s' = s.putO o.dst (.tup [])))) ∨ (s.get g = .tup [] ∧ s' = s.putO o.dst (.tup [])))
def usesG (ops : Array Oper) (o : Oper) : List Nat :=
  zD4 o.op ++ match o.guard with
    | some (j, _) => ((ops[j]?).bind (·.dst)).toList
    | none => []
theorem zGZ (s : AState) (d : Nat) (y : AV) (m : Option Place) (first captured : List AV) {args : Array Operand} (h : d ∉ zFU args.toList) :
    zDi (s.upd d y m) first captured args = zDi s first captured args := by
  unfold zDi; rw [map_look_upd s d y m h]
theorem zG3 {c : Call} {x : Operand} (hc : c.callee = .value x) : zD4 (.call c) = zFU (x :: c.args.toList) := by
  simp [zD4, hc]
theorem zIm {P : Program} {B : List Nat} {o : Oper} {s : AState} {d : Nat} {y : AV} {m : Option Place} (hm : okL B o.op m) (hf : s.free d) (h : d ∉ zD4 o.op)
    (hd : ∀ e, o.dst = some e → e ≠ d ∧ m ≠ some (.tmp e)) {s2 : AState} : StepD P B o (s.upd d y m) s2 ↔ ∃ s', StepD P B o s s' ∧ s2 = s'.upd d y m := by
  have habs := fun hg : Gd B s o.op => absOp_upd P s d y m o.op (hm.okM hg) hf h
  have hput : ∀ r : Res, (s.upd d y m).putR o.dst (r.upd d y m) = (s.putR o.dst r).upd d y m := fun r => by
    cases hdst : o.dst with
    | none => rfl
    | some e => exact putL_upd r.st d y m r.val r.loan (hd e hdst).1 (hd e hdst).2
  constructor
  · rintro (⟨c, x, f, first, captured, res, h1, h2, h3, h4, h5, h6, rfl⟩ | ⟨r, h1, h2, hgd, rfl⟩)
    · rw [h1, zG3 h2] at h
      have hx := zAj h (List.mem_cons_self ..)
      have ha : d ∉ zFU c.args.toList := fun hmem => h (by simp only [zFU, List.mem_filterMap] at hmem ⊢; obtain ⟨z, hz, he⟩ := hmem; exact ⟨z, List.mem_cons_of_mem _ hz, he⟩)
      rw [zB1 s d y m hx] at h3
      rw [zGZ s d y m _ _ ha] at h4 h5
      exact ⟨s.putO o.dst res, .inl ⟨c, x, f, first, captured, res, h1, h2, h3, h4, h5, h6, rfl⟩, putO_upd s d y m res (fun k hk => hd k hk)⟩
    · have hgd' := (gd_upd hf h).1 hgd
      rw [habs hgd'] at h1
      cases hr : zHc P s o.op with
      | none => rw [hr] at h1; cases h1
      | some r' =>
        rw [hr] at h1; cases h1
        exact ⟨s.putR o.dst r', .inr ⟨r', hr, h2, hgd', rfl⟩, hput r'⟩
  · rintro ⟨s', ⟨c, x, f, first, captured, res, h1, h2, h3, h4, h5, h6, rfl⟩ | ⟨r, h1, h2, hgd, rfl⟩, rfl⟩
    · have hh := h
      rw [h1, zG3 h2] at h
      have hx := zAj h (List.mem_cons_self ..)
      have ha : d ∉ zFU c.args.toList := fun hmem => h (by simp only [zFU, List.mem_filterMap] at hmem ⊢; obtain ⟨z, hz, he⟩ := hmem; exact ⟨z, List.mem_cons_of_mem _ hz, he⟩)
      exact .inl ⟨c, x, f, first, captured, res, h1, h2, by rw [zB1 s d y m hx]; exact h3, by rw [zGZ s d y m _ _ ha]; exact h4, by rw [zGZ s d y m _ _ ha]; exact h5, h6,
        (putO_upd s d y m res (fun k hk => hd k hk)).symm⟩
    · exact .inr ⟨r.upd d y m, by rw [habs hgd, h1]; rfl, h2, (gd_upd hf h).2 hgd, (hput r).symm⟩
theorem gstep_upd {P : Program} {B : List Nat} {ops : Array Oper} {o : Oper} {s : AState} {d : Nat} {y : AV} {m : Option Place} (hm : okL B o.op m) (hf : s.free d) (h : d ∉ usesG ops o)
    (hd : ∀ e, o.dst = some e → e ≠ d ∧ m ≠ some (.tmp e)) {s2 : AState} : GStep P B ops o (s.upd d y m) s2 ↔ ∃ s', GStep P B ops o s s' ∧ s2 = s'.upd d y m := by
  have h1 : d ∉ zD4 o.op := fun hmem => h (List.mem_append_left _ hmem)
  unfold GStep
  cases hg : o.guard with
  | none => exact zIm hm hf h1 hd
  | some q =>
    obtain ⟨j, want⟩ := q
    simp only
    have hskip := putO_upd s d y m (e := o.dst) (.tup []) (fun k hk => hd k hk)
    have hget : ∀ g, (ops[j]?).bind (·.dst) = some g → (s.upd d y m).get g = s.get g := fun g hgj =>
      get_upd s d y m (fun e => h (List.mem_append_right _ (by simp [hg, hgj, e])))
    constructor
    · rintro ⟨g, hgj, hh⟩
      rw [hget g hgj] at hh
      rcases hh with ⟨b, hb, ⟨hw, hs⟩ | ⟨hw, rfl⟩⟩ | ⟨hb, rfl⟩
      · obtain ⟨s', hs', rfl⟩ := (zIm hm hf h1 hd).1 hs
        exact ⟨s', ⟨g, hgj, .inl ⟨b, hb, .inl ⟨hw, hs'⟩⟩⟩, rfl⟩
      · exact ⟨_, ⟨g, hgj, .inl ⟨b, hb, .inr ⟨hw, rfl⟩⟩⟩, hskip⟩
      · exact ⟨_, ⟨g, hgj, .inr ⟨hb, rfl⟩⟩, hskip⟩
    · rintro ⟨s', ⟨g, hgj, hh⟩, rfl⟩
      refine ⟨g, hgj, ?_⟩
      rw [hget g hgj]
      rcases hh with ⟨b, hb, ⟨hw, hs⟩ | ⟨hw, rfl⟩⟩ | ⟨hb, rfl⟩
      · exact .inl ⟨b, hb, .inl ⟨hw, (zIm hm hf h1 hd).2 ⟨s', hs, rfl⟩⟩⟩
      · exact .inl ⟨b, hb, .inr ⟨hw, hskip.symm⟩⟩
      · exact .inr ⟨hb, hskip.symm⟩
def isA : Op → Bool
  | .pick .. | .build .. | .buildSlice .. | .nilCheck _ | .binOp .. | .unOp .. | .convert .. | .makeInterface .. | .makeFunc .. | .slice .. | .fieldAddr .. | .indexAddr .. | .index .. | .extract .. => true
  | .call c => match c.callee with
    | .value _ => true
    | .builtin b => (match b with | .len | .min | .max => true | _ => false)
    | _ => false
  | _ => false
def zEz : Op → Bool
  | .move _ => true
  | _ => false
def zDw : Op → Bool
  | .load .. => true
  | _ => false
def isNew : Op → Bool
  | .alloc _ | .box .. => true
  | _ => false
theorem zID {P : Program} {s s2 : AState} {op : Op} (hA : isA op = true) (h : ∀ x, (∀ t, x = .tmp t → t ∈ zD4 op) → s2.look x = s.look x) :
    zHc P s2 op = (zHc P s op).map (fun r => { r with st := s2 }) ∧ ∀ r, zHc P s op = some r → r.st = s ∧ r.loan = none ∧ True := by
  have hm : ∀ {xs : List Operand}, (∀ t, t ∈ zFU xs → t ∈ zD4 op) → ∀ x, x ∈ xs → s2.look x = s.look x := fun hsub x hx => h x fun t e => hsub t (zGs (by rw [← e]; exact hx))
  cases op <;> simp only [isA, Bool.false_eq_true] at hA <;> simp only [zD4] at hm <;> simp only [zHc]
  case pick c a b =>
    have e := hm (xs := [c, a, b]) (fun _ h => h)
    simp only [zHw, e c (by simp), e a (by simp), e b (by simp)]
    exact ⟨rfl, fun r hr => by cases hr; exact ⟨rfl, rfl, trivial⟩⟩
  case build t parts =>
    have e := hm (xs := parts.toList.map (·.2)) (fun _ h => h)
    have hp : (parts.toList.map fun q => (q.1, s2.look q.2)) = parts.toList.map fun q => (q.1, s.look q.2) := List.map_congr_left fun q hq => by rw [e q.2 (List.mem_map.2 ⟨q, hq, rfl⟩)]
    unfold zHA
    rw [hp]
    split
    · split
      · split
        · exact ⟨rfl, fun r hr => by cases hr; exact ⟨rfl, rfl, trivial⟩⟩
        · exact ⟨rfl, fun r hr => by cases hr⟩
      · exact ⟨rfl, fun r hr => by cases hr⟩
    · split
      · split
        · exact ⟨rfl, fun r hr => by cases hr; exact ⟨rfl, rfl, trivial⟩⟩
        · exact ⟨rfl, fun r hr => by cases hr⟩
      · exact ⟨rfl, fun r hr => by cases hr⟩
    · exact ⟨rfl, fun r hr => by cases hr⟩
  case buildSlice t n parts =>
    have e := hm (xs := parts.toList.map (·.2)) (fun _ h => h)
    have hp : ∀ q, q ∈ parts.toList → s2.look q.2 = s.look q.2 := fun q hq => e q.2 (List.mem_map.2 ⟨q, hq, rfl⟩)
    have hp1 : (parts.toList.map fun q => (s2.look q.2).norm.cells) = parts.toList.map fun q => (s.look q.2).norm.cells := List.map_congr_left fun q hq => by rw [hp q hq]
    have hp2 : (parts.toList.all fun q => (s2.look q.2).solid) = parts.toList.all fun q => (s.look q.2).solid := by
      rw [Bool.eq_iff_iff, List.all_eq_true, List.all_eq_true]
      exact ⟨fun h q hq => by rw [← hp q hq]; exact h q hq, fun h q hq => by rw [hp q hq]; exact h q hq⟩
    unfold zEL
    rw [hp1, hp2]
    split
    · split
      · split
        · exact ⟨rfl, fun r hr => by cases hr; exact ⟨rfl, rfl, trivial⟩⟩
        · exact ⟨rfl, fun r hr => by cases hr⟩
      · exact ⟨rfl, fun r hr => by cases hr⟩
    · exact ⟨rfl, fun r hr => by cases hr⟩
  case nilCheck x =>
    unfold zFB
    rw [hm (xs := [x]) (fun _ h => h) x (by simp)]
    split <;> first | exact ⟨rfl, fun r hr => by cases hr; exact ⟨rfl, rfl, trivial⟩⟩ | exact ⟨rfl, fun r hr => by cases hr⟩
  case binOp op t x z t' =>
    unfold resBin
    have e := hm (xs := [x, z]) (fun _ h => h)
    rw [e x (by simp), e z (by simp)]
    split <;> first | exact ⟨rfl, fun r hr => by cases hr; exact ⟨rfl, rfl, trivial⟩⟩ | exact ⟨rfl, fun r hr => by cases hr⟩
  case unOp op t x =>
    unfold resUn
    rw [hm (xs := [x]) (fun _ h => h) x (by simp)]
    split <;> first | exact ⟨rfl, fun r hr => by cases hr; exact ⟨rfl, rfl, trivial⟩⟩ | exact ⟨rfl, fun r hr => by cases hr⟩
  case convert src dst x =>
    unfold zIS
    rw [hm (xs := [x]) (fun _ h => h) x (by simp)]
    split <;> first | exact ⟨rfl, fun r hr => by cases hr; exact ⟨rfl, rfl, trivial⟩⟩ | exact ⟨rfl, fun r hr => by cases hr⟩ |
      (split <;> first | exact ⟨rfl, fun r hr => by cases hr; exact ⟨rfl, rfl, trivial⟩⟩ | exact ⟨rfl, fun r hr => by cases hr⟩)
  case makeInterface t x =>
    unfold zG9
    rw [hm (xs := [x]) (fun _ h => h) x (by simp)]
    split <;> first | exact ⟨rfl, fun r hr => by cases hr; exact ⟨rfl, rfl, trivial⟩⟩ | exact ⟨rfl, fun r hr => by cases hr⟩
  case makeFunc f first captured =>
    have e := hm (xs := first.toList ++ captured.toList) (fun _ h => h)
    have h1 : (first.toList.map s2.look) = first.toList.map s.look := List.map_congr_left fun x hx => e x (List.mem_append_left _ hx)
    have h2 : (captured.toList.map s2.look) = captured.toList.map s.look := List.map_congr_left fun x hx => e x (List.mem_append_right _ hx)
    simp only [resFunc, h1, h2]
    exact ⟨rfl, fun r hr => by cases hr; exact ⟨rfl, rfl, trivial⟩⟩
  case slice t x lo hi mx =>
    cases mx with
    | some z => exact ⟨rfl, fun r hr => by cases hr⟩
    | none =>
      have e := hm (xs := x :: (lo.toList ++ hi.toList)) (fun _ h => h)
      have hbd : ∀ (D : Int) (z : Option Operand), (∀ q, z = some q → s2.look q = s.look q) → bound s2 D z = bound s D z := fun D z hz => by
        cases z with
        | none => rfl
        | some q => simp only [bound, hz q rfl]
      simp only
      unfold zG7
      rw [e x (List.mem_cons_self ..)]
      split
      · split
        · rw [hbd _ lo (fun q hq => e q (by subst hq; simp)), hbd _ hi (fun q hq => e q (by subst hq; simp))]
          split <;> first | exact ⟨rfl, fun r hr => by cases hr; exact ⟨rfl, rfl, trivial⟩⟩ | exact ⟨rfl, fun r hr => by cases hr⟩
        · exact ⟨rfl, fun r hr => by cases hr⟩
      · split
        · rw [hbd _ lo (fun q hq => e q (by subst hq; simp)), hbd _ hi (fun q hq => e q (by subst hq; simp))]
          split <;> first | exact ⟨rfl, fun r hr => by cases hr; exact ⟨rfl, rfl, trivial⟩⟩ | exact ⟨rfl, fun r hr => by cases hr⟩
        · exact ⟨rfl, fun r hr => by cases hr⟩
      · exact ⟨rfl, fun r hr => by cases hr⟩
  case fieldAddr t x f =>
    unfold zEo
    rw [hm (xs := [x]) (fun _ h => h) x (by simp)]
    split
    · split
      · split <;> first | exact ⟨rfl, fun r hr => by cases hr; exact ⟨rfl, rfl, trivial⟩⟩ | exact ⟨rfl, fun r hr => by cases hr⟩
      · exact ⟨rfl, fun r hr => by cases hr⟩
    · exact ⟨rfl, fun r hr => by cases hr⟩
  case indexAddr t x i =>
    unfold zEn
    have e := hm (xs := [x, i]) (fun _ h => h)
    rw [e x (by simp), e i (by simp)]
    split
    · split <;> first | exact ⟨rfl, fun r hr => by cases hr; exact ⟨rfl, rfl, trivial⟩⟩ | exact ⟨rfl, fun r hr => by cases hr⟩
    · exact ⟨rfl, fun r hr => by cases hr⟩
  case index t x i =>
    unfold zG8
    have e := hm (xs := [x, i]) (fun _ h => h)
    rw [e x (by simp), e i (by simp)]
    split
    · split <;> first | exact ⟨rfl, fun r hr => by cases hr; exact ⟨rfl, rfl, trivial⟩⟩ | exact ⟨rfl, fun r hr => by cases hr⟩
    · split <;> first | exact ⟨rfl, fun r hr => by cases hr; exact ⟨rfl, rfl, trivial⟩⟩ | exact ⟨rfl, fun r hr => by cases hr⟩
    · exact ⟨rfl, fun r hr => by cases hr⟩
  case extract x i =>
    unfold zFX
    rw [hm (xs := [x]) (fun _ h => h) x (by simp)]
    split
    · split <;> first | exact ⟨rfl, fun r hr => by cases hr; exact ⟨rfl, rfl, trivial⟩⟩ | exact ⟨rfl, fun r hr => by cases hr⟩
    · exact ⟨rfl, fun r hr => by cases hr⟩
  case call c =>
    obtain ⟨callee, args, argTypes⟩ := c
    cases callee with
    | value f => exact ⟨rfl, fun r hr => by cases hr⟩
    | invoke r n => exact ⟨rfl, fun r hr => by cases hr⟩
    | builtin b =>
      cases b <;> simp only [Bool.false_eq_true] at hA
      all_goals
        simp only [zE1]
        split
        · first
          | (rename_i hb _; cases hb; done)
          | (rename_i x hb hx
             simp only [hx, List.nil_append] at hm
             unfold resLen
             rw [hm (xs := [x]) (fun _ h => h) x (by simp)]
             split
             · split
               · exact ⟨rfl, fun r hr => by cases hr; exact ⟨rfl, rfl, trivial⟩⟩
               · split <;> first | exact ⟨rfl, fun r hr => by cases hr; exact ⟨rfl, rfl, trivial⟩⟩ | exact ⟨rfl, fun r hr => by cases hr⟩
               · exact ⟨rfl, fun r hr => by cases hr⟩
             · exact ⟨rfl, fun r hr => by cases hr⟩)
        · rename_i hb _; cases hb
        · first
          | (rename_i hb _; cases hb; done)
          | (rename_i x z hb hx
             simp only [hx, List.nil_append] at hm
             unfold resMM
             rw [hm (xs := [x, z]) (fun _ h => h) x (by simp), hm (xs := [x, z]) (fun _ h => h) z (by simp)]
             split
             · split <;> first | exact ⟨rfl, fun r hr => by cases hr; exact ⟨rfl, rfl, trivial⟩⟩ | exact ⟨rfl, fun r hr => by cases hr⟩
             · exact ⟨rfl, fun r hr => by cases hr⟩)
        · first
          | (rename_i hb _; cases hb; done)
          | (rename_i x z hb hx
             simp only [hx, List.nil_append] at hm
             unfold resMM
             rw [hm (xs := [x, z]) (fun _ h => h) x (by simp), hm (xs := [x, z]) (fun _ h => h) z (by simp)]
             split
             · split <;> first | exact ⟨rfl, fun r hr => by cases hr; exact ⟨rfl, rfl, trivial⟩⟩ | exact ⟨rfl, fun r hr => by cases hr⟩
             · exact ⟨rfl, fun r hr => by cases hr⟩)
        · exact ⟨rfl, fun r hr => by cases hr⟩
def LInv (S : List Nat) (s : AState) : Prop := ∀ t u, s.loans t = some (.tmp u) → u ∈ S
theorem LInv.free {S : List Nat} {s : AState} (h : LInv S s) {d : Nat} (hd : d ∉ S) : s.free d := fun t e => hd (h t d e)
structure Frame0 (op : Op) (s : AState) (r : Res) : Prop where
 n : r.st.n = s.n
 copy : ∀ t, (r.st.get t).copy = (s.get t).copy
 loans : ∀ t p, r.st.loans t = some p → s.loans t = some p
 loan : ∀ u, r.loan = some (.tmp u) → zEz op = true ∧ u ∈ zD4 op
 calm : (isA op || zEz op || zDw op || isNew op) = true → (∀ t, r.st.get t = s.get t) ∧ ∃ bl, r.st.blocks = s.blocks ++ bl ∧ (isNew op = false → bl = [])
theorem zF6 {op : Op} {s : AState} {c : Prop} {v : AV} {l : Option Place} (hl : ∀ u, l = some (.tmp u) → zEz op = true ∧ u ∈ zD4 op) : Frame0 op s ⟨c, v, l, s⟩ :=
 ⟨rfl, fun _ => rfl, fun _ _ h => h, hl, fun _ => ⟨fun _ => rfl, [], by simp, fun _ => rfl⟩⟩
theorem copy_copy (x : AV) : x.copy.copy = x.copy := by cases x <;> rfl
theorem zFV (s : AState) (x : Operand) : (s.takeS x).n = s.n ∧ (∀ t, ((s.takeS x).get t).copy = (s.get t).copy) ∧ ∀ t, (s.takeS x).loans t = s.loans t := by
 cases x with
 | tmp u =>
  simp only [AState.takeS]
  cases s.owner u with
  | none => exact ⟨rfl, fun _ => rfl, fun _ => rfl⟩
  | some p =>
   cases p with
   | tmp w =>
    refine ⟨rfl, fun t => ?_, fun _ => rfl⟩
    show (if t = w then (s.tmps w).copy else s.tmps t).copy = (s.tmps t).copy
    split
    ·rename_i e; rw [e, copy_copy]
    ·rfl
   | cell b o => exact ⟨rfl, fun _ => rfl, fun _ => rfl⟩
 | _ => exact ⟨rfl, fun _ => rfl, fun _ => rfl⟩
theorem zGg (b : Nat) : ∀ (xs : List AV) (o : Nat) (s : AState), (s.setCells b o xs).n = s.n ∧ (∀ t, (s.setCells b o xs).get t = s.get t) ∧ ∀ t p, (s.setCells b o xs).loans t = some p → s.loans t = some p
 | [], o, s => ⟨rfl, fun _ => rfl, fun _ _ h => h⟩
 | x :: xs, o, s => by
  obtain ⟨h1, h2, h3⟩ := zGg b xs (o + 1) (s.setCell b o x)
  refine ⟨h1, h2, fun t p hp => ?_⟩
  have := h3 t p hp
  simp only [AState.setCell] at this
  split at this
  ·cases this
  ·exact this
theorem absOp_frame {P : Program} {s : AState} {op : Op} {r : Res} (h : zHc P s op = some r) : Frame0 op s r := by
 by_cases hA : isA op = true
 ·obtain ⟨_, h2⟩ := zID (P := P) (s := s) (s2 := s) hA (fun _ _ => rfl)
  obtain ⟨h3, h4, _⟩ := h2 r h
  obtain ⟨c, v, l, st⟩ := r
  simp only at h3 h4
  subst h3; subst h4
  exact zF6 (fun u hu => by cases hu)
 ·cases op <;> simp only [zHc, reduceCtorEq] at h <;> try (exact absurd rfl hA)
  case move x =>
   cases h
   refine zF6 fun u hu => ⟨rfl, ?_⟩
   cases x with
   | tmp t =>
    simp only [AState.loanOf] at hu
    split at hu
    ·cases hu; simp [zD4, zFU]
    ·cases hu
   | _ => cases hu
  case assign x =>
   cases h
   obtain ⟨h1, h2, h3⟩ := zFV s x
   exact ⟨h1, h2, fun t p hp => by rw [← h3 t]; exact hp, fun u hu => (by cases hu), fun hc => by simp [isA, zEz, zDw, isNew] at hc⟩
  case alloc t =>
   unfold zHB at h
   split at h
   ·split at h
    ·cases h
     exact ⟨rfl, fun _ => rfl, fun _ _ h => h, fun u hu => (by cases hu), fun _ => ⟨fun _ => rfl, _, rfl, fun hc => by simp [isNew] at hc⟩⟩
    ·cases h
   ·cases h
  case box t x =>
   cases h
   exact ⟨rfl, fun _ => rfl, fun _ _ h => h, fun u hu => (by cases hu), fun _ => ⟨fun _ => rfl, _, rfl, fun hc => by simp [isNew] at hc⟩⟩
  case load t x =>
   unfold zGj at h
   split at h
   ·split at h
    ·cases h
     refine zF6 fun u hu => ?_
     split at hu
     ·split at hu
      ·cases hu
      ·cases hu
     ·cases hu
    ·cases h
   ·split at h
    ·cases h; exact zF6 fun u hu => by cases hu
    ·cases h
   ·cases h
  case makeSlice t l c =>
   unfold zIR at h
   split at h
   ·split at h
    ·split at h
     ·split at h
      ·cases h; exact zF6 fun u hu => by cases hu
      ·cases h
     ·cases h
    ·cases h
   ·cases h
  case store t x z =>
   unfold zGT at h
   obtain ⟨h1, h2, h3⟩ := zFV s z
   split at h
   ·split at h
    ·cases h
     refine ⟨h1, h2, fun t p hp => ?_, fun u hu => (by cases hu), fun hc => by simp [isA, zEz, zDw, isNew] at hc⟩
     simp only [AState.setCell] at hp
     split at hp
     ·cases hp
     ·rw [← h3 t]; exact hp
    ·cases h
     obtain ⟨g1, g2, g3⟩ := zGg _ (List.map AV.copy (s.takeV z).cells) _ (s.takeS z)
     exact ⟨g1.trans h1, fun t => by rw [g2 t]; exact h2 t, fun t p hp => by rw [← h3 t]; exact g3 t p hp, fun u hu => (by cases hu), fun hc => by simp [isA, zEz, zDw, isNew] at hc⟩
   ·cases h
  case call c =>
   obtain ⟨callee, args, argTypes⟩ := c
   cases callee with
   | value f => cases h
   | invoke r n => cases h
   | builtin b =>
    simp only [zE1] at h
    split at h
    ·exact absurd rfl hA
    ·unfold zF8 at h
     split at h
     ·split at h
      ·split at h
       ·split at h
        ·cases h
         exact ⟨(zFV s _).1, (zFV s _).2.1, fun t p hp => by rw [← (zFV s _).2.2 t]; exact hp, fun u hu => (by cases hu), fun hc => by simp [isA, zEz, zDw, isNew] at hc⟩
        ·cases h
       ·cases h
      ·cases h
     ·cases h
    ·exact absurd rfl hA
    ·exact absurd rfl hA
    ·cases h
theorem zHJ (s : AState) (d t : Nat) (x : AV) (h : t ≠ d) : (s.put d x).get t = s.get t := by
 unfold AState.put; split
 ·simp only [AState.get, if_neg h]
 ·rfl
theorem zHf (s : AState) (d t : Nat) (x : AV) (l : Option Place) (h : t ≠ d) : (s.putL d x l).get t = s.get t := by
 unfold AState.putL
 cases l with
 | none => exact zHJ s d t x h
 | some p =>
  simp only
  split
  ·exact zHJ s d t x h
  ·exact zHJ s d t x h
theorem n_putL' (s : AState) (d : Nat) (x : AV) (l : Option Place) : (s.putL d x l).n = s.n := by
 unfold AState.putL
 cases l with
 | none => exact put_n s d x
 | some p =>
  simp only
  split
  ·exact put_n s d x
  ·exact put_n s d x
theorem zFk (s : AState) (d : Nat) (x : AV) (l : Option Place) : (s.putL d x l).blocks = s.blocks := by
 unfold AState.putL
 cases l with
 | none => exact zEc s d x
 | some p =>
  simp only
  split
  ·exact zEc s d x
  ·exact zEc s d x
theorem zF4 {s : AState} {d t : Nat} {x : AV} {p : Place} (h : (s.put d x).loans t = some p) : s.loans t = some p := by
 unfold AState.put at h; split at h
 ·simp only at h
  split at h
  ·cases h
  ·split at h
   ·cases h
   ·exact h
 ·exact h
theorem loans_putL' {s : AState} {d t : Nat} {x : AV} {l : Option Place} {p : Place} (h : (s.putL d x l).loans t = some p) : s.loans t = some p ∨ l = some p := by
 unfold AState.putL at h
 cases l with
 | none => exact .inl (zF4 h)
 | some q =>
  simp only at h
  split at h
  ·exact .inl (zF4 h)
  ·simp only at h
   split at h
   ·exact .inr h
   ·exact .inl (zF4 h)
theorem stepD_frame {P : Program} {B : List Nat} {o : Oper} {s s' : AState} (h : StepD P B o s s') : s'.n = s.n ∧ (∀ t, o.dst ≠ some t → (s'.get t).copy = (s.get t).copy) ∧
  (∀ t u, s'.loans t = some (.tmp u) → s.loans t = some (.tmp u) ∨ (zEz o.op = true ∧ u ∈ zD4 o.op)) ∧
  ((isA o.op || zEz o.op || zDw o.op || isNew o.op) = true → (∀ t, o.dst ≠ some t → s'.get t = s.get t) ∧ ∃ bl, s'.blocks = s.blocks ++ bl ∧ (isNew o.op = false → bl = [])) := by
 rcases h with ⟨c, x, f, first, captured, res, h1, h2, h3, h4, h5, h6, rfl⟩ | ⟨r, h1, h2, hgd, rfl⟩
 ·have hg : ∀ t, o.dst ≠ some t → (s.putO o.dst res).get t = s.get t := fun t ht => by
   cases hd : o.dst with
   | none => rfl
   | some d => exact zHJ s d t res (fun e => ht (by rw [hd, e]))
  refine ⟨?_, fun t ht => by rw [hg t ht], fun t u hu => .inl ?_, fun _ => ⟨hg, [], ?_, fun _ => rfl⟩⟩
  ·cases hd : o.dst with
   | none => rfl
   | some d => exact put_n s d res
  ·cases hd : o.dst with
   | none => rw [hd] at hu; exact hu
   | some d => rw [hd] at hu; exact zF4 hu
  ·cases hd : o.dst with
   | none => simp [AState.putO]
   | some d => simp [AState.putO, zEc]
 ·have hf := absOp_frame h1
  cases hd : o.dst with
  | none =>
   simp only [AState.putR]
   exact ⟨hf.n, fun t _ => hf.copy t, fun t u hu => .inl (hf.loans t _ hu), fun hc => ⟨fun t _ => (hf.calm hc).1 t, (hf.calm hc).2⟩⟩
  | some d =>
   simp only [AState.putR]
   refine ⟨by rw [n_putL']; exact hf.n, fun t ht => by rw [zHf _ _ _ _ _ (fun e => ht (by rw [e]))]; exact hf.copy t, fun t u hu => ?_, fun hc => ⟨fun t ht => by rw [zHf _ _ _ _ _ (fun e => ht (by rw [e]))]; exact (hf.calm hc).1 t, ?_⟩⟩
   ·rcases loans_putL' hu with hu | hu
    ·exact .inl (hf.loans t _ hu)
    ·exact .inr (hf.loan u hu)
   ·rw [zFk]; exact (hf.calm hc).2
theorem zIb {P : Program} {B : List Nat} {ops : Array Oper} {o : Oper} {s s' : AState} (h : GStep P B ops o s s') : StepD P B o s s' ∨ s' = s.putO o.dst (.tup []) := by
 unfold GStep at h
 split at h
 ·exact .inl h
 ·obtain ⟨g, _, ⟨b, _, ⟨_, h⟩ | ⟨_, h⟩⟩ | ⟨_, h⟩⟩ := h
  ·exact .inl h
  ·exact .inr h
  ·exact .inr h
theorem zHI {P : Program} {B : List Nat} {ops : Array Oper} {o : Oper} {s s' : AState} (h : GStep P B ops o s s') : s'.n = s.n ∧ (∀ t, o.dst ≠ some t → (s'.get t).copy = (s.get t).copy) ∧
  (∀ t u, s'.loans t = some (.tmp u) → s.loans t = some (.tmp u) ∨ (zEz o.op = true ∧ u ∈ zD4 o.op)) ∧
  ((isA o.op || zEz o.op || zDw o.op || isNew o.op) = true → (∀ t, o.dst ≠ some t → s'.get t = s.get t) ∧ ∃ bl, s'.blocks = s.blocks ++ bl ∧ (isNew o.op = false → bl = [])) := by
 rcases zIb h with h | rfl
 ·exact stepD_frame h
 ·have hg : ∀ t, o.dst ≠ some t → (s.putO o.dst (.tup [])).get t = s.get t := fun t ht => by
   cases hd : o.dst with
   | none => rfl
   | some d => exact zHJ s d t _ (fun e => ht (by rw [hd, e]))
  refine ⟨?_, fun t ht => by rw [hg t ht], fun t u hu => .inl ?_, fun _ => ⟨hg, [], ?_, fun _ => rfl⟩⟩
  ·cases hd : o.dst with
   | none => rfl
   | some d => exact put_n s d _
  ·cases hd : o.dst with
   | none => rw [hd] at hu; exact hu
   | some d => rw [hd] at hu; exact zF4 hu
  ·cases hd : o.dst with
   | none => simp [AState.putO]
   | some d => simp [AState.putO, zEc]
def zI5 (B : List Nat) (ops : Array Oper) (o : Oper) (s s2 : AState) : Prop :=
 (∀ t, t ∈ usesG ops o → (s2.get t).copy = (s.get t).copy) ∧ (isA o.op = false → ∀ t, t ∈ usesG ops o → s2.get t = s.get t) ∧
 (zDw o.op = true → ∀ t b off, t ∈ zD4 o.op → s.get t = .mptr b off → b < s.blocks.length → (B = [] ∨ b ∉ B) → s2.blocks.getD b [] = s.blocks.getD b [] ∧ b < s2.blocks.length)
theorem zGU {s s2 : AState} {uses : List Nat} (h : ∀ t, t ∈ uses → (s2.get t).copy = (s.get t).copy) {x : Operand} (hx : ∀ t, x = .tmp t → t ∈ uses) : s2.look x = s.look x := by
 cases x with
 | tmp t => exact h t (hx t rfl)
 | _ => rfl
theorem gd_A {B : List Nat} {s : AState} {op : Op} (h : isA op = true) : Gd B s op := by
 cases op <;> first | trivial | simp [isA] at h
theorem zGf (b : Nat) : ∀ (xs : List AV) (o : Nat) (s : AState), (∀ t, (s.setCells b o xs).get t = s.get t) ∧ (s.setCells b o xs).blocks.length = s.blocks.length ∧ ∀ b', b' ≠ b → (s.setCells b o xs).blocks.getD b' [] = s.blocks.getD b' []
 | [], o, s => ⟨fun _ => rfl, rfl, fun _ _ => rfl⟩
 | x :: xs, o, s => by
  obtain ⟨h1, h2, h3⟩ := zGf b xs (o + 1) (s.setCell b o x)
  simp only [AState.setCells]
  refine ⟨fun t => by rw [h1]; rfl, by rw [h2]; simp [AState.setCell], fun b' hb => ?_⟩
  rw [h3 b' hb]
  simp only [AState.setCell, List.getD_eq_getElem?_getD, List.getElem?_set_ne (Ne.symm hb)]
theorem stepD_store {P : Program} {B : List Nat} {o : Oper} {s s' : AState} (hB : B ≠ []) (ho : isPut o.op = true) (h : StepD P B o s s') :
  (∀ t, o.dst ≠ some t → s'.get t = s.get t) ∧ s'.blocks.length = s.blocks.length ∧ ∀ b, b ∉ B → s'.blocks.getD b [] = s.blocks.getD b [] := by
 rcases h with ⟨c, x, f, first, captured, res, h1, _⟩ | ⟨r, h1, h2, hgd, rfl⟩
 ·rw [h1] at ho; simp [isPut] at ho
 ·cases hop : o.op <;> rw [hop] at ho <;> simp only [isPut, Bool.false_eq_true] at ho
  case assign x =>
   rw [hop] at h1 hgd
   rcases hgd with hgd | hown
   ·exact absurd hgd hB
   have hS : s.takeS x = s := by
    cases x with
    | tmp t => simp only [AState.takeS, hown t rfl]
    | _ => rfl
   simp only [zHc, zGk, Option.some.injEq] at h1
   subst h1
   rw [hS]
   cases hd : o.dst with
   | none => exact ⟨fun _ _ => rfl, rfl, fun _ _ => rfl⟩
   | some d => exact ⟨fun t ht => zHf s d t _ _ (fun e => ht (by rw [e])), by simp [AState.putR, zFk], fun b _ => by simp [AState.putR, zFk]⟩
  case store t x y =>
   rw [hop] at h1 hgd
   rcases hgd with hgd | ⟨⟨b, off, hev, hbB⟩, hown⟩
   ·exact absurd hgd hB
   have hS : s.takeS y = s := by
    cases y with
    | tmp t => simp only [AState.takeS, hown t rfl]
    | _ => rfl
   have hV : (s.takeV y).owns = false := by
    cases y with
    | tmp t => simp only [AState.takeV, hown t rfl]; exact zEe _
    | const v => exact zH4 v
    | _ => rfl
   simp only [zHc, zGT, hev] at h1
   split at h1
   ·rename_i i b' off' he hi
    cases he
    rw [hV] at h1
    simp only [Bool.false_eq_true, if_false, Option.some.injEq] at h1
    subst h1
    obtain ⟨q1, q2, q3⟩ := zGf b ((s.takeV y).cells.map AV.copy) off s
    have hput : ∀ (st : AState) (d : Option Nat), (∀ t, d ≠ some t → (AState.putR st d ⟨True, .top, none, st⟩).get t = st.get t) ∧ (AState.putR st d ⟨True, .top, none, st⟩).blocks = st.blocks := fun st d => by
     cases d with
     | none => exact ⟨fun _ _ => rfl, rfl⟩
     | some d => exact ⟨fun t ht => zHf st d t _ _ (fun e => ht (by rw [e])), zFk st d _ _⟩
    have hst : ∀ sd : Prop, s.putR o.dst ⟨sd, .top, none, (s.takeS y).setCells b off ((s.takeV y).cells.map AV.copy)⟩ = (s.setCells b off ((s.takeV y).cells.map AV.copy)).putR o.dst ⟨True, .top, none, s.setCells b off ((s.takeV y).cells.map AV.copy)⟩ := fun sd => by
     rw [hS]; cases o.dst <;> rfl
    rw [hst]
    obtain ⟨p1, p2⟩ := hput (s.setCells b off ((s.takeV y).cells.map AV.copy)) o.dst
    refine ⟨fun t ht => by rw [p1 t ht, q1], by rw [p2, q2], fun b' hb' => by rw [p2]; exact q3 b' (fun e => hb' (by rw [e]; exact hbB))⟩
   ·cases h1
theorem zIa {P : Program} {B : List Nat} {ops : Array Oper} {o : Oper} {s s' : AState} (hB : B ≠ []) (ho : isPut o.op = true) (h : GStep P B ops o s s') :
  (∀ t, o.dst ≠ some t → s'.get t = s.get t) ∧ s'.blocks.length = s.blocks.length ∧ ∀ b, b ∉ B → s'.blocks.getD b [] = s.blocks.getD b [] := by
 rcases zIb h with h | rfl
 ·exact stepD_store hB ho h
 ·cases hd : o.dst with
  | none => exact ⟨fun _ _ => rfl, rfl, fun _ _ => rfl⟩
  | some d => exact ⟨fun t ht => zHJ s d t _ (fun e => ht (by rw [e])), by simp [AState.putO, zEc], fun b _ => by simp [AState.putO, zEc]⟩
theorem zHq {P : Program} {B : List Nat} {ops : Array Oper} {o : Oper} {d : Nat} (hd : o.dst = some d) (hc : (isA o.op || zEz o.op || zDw o.op) = true) {s s' : AState} (h : StepD P B o s s') :
  ∃ v l, (∀ u, l = some (.tmp u) → u ∈ zD4 o.op) ∧ (zDw o.op = false → notCell l) ∧ (∀ b o, l = some (.cell b o) → B = [] ∨ b ∉ B) ∧ s' = s.putL d v l ∧ ∀ s2, zI5 B ops o s s2 → StepD P B o s2 (s2.putL d v l) := by
 rcases h with ⟨c, x, f, first, captured, res, h1, h2, h3, h4, h5, h6, rfl⟩ | ⟨r, h1, h2, hgd, rfl⟩
 ·refine ⟨res, none, fun u hu => (by cases hu), fun _ b o hb => (by cases hb), fun b o hb => (by cases hb), by rw [hd]; rfl, fun s2 hv => ?_⟩
  have hu : ∀ z, (∀ t, z = .tmp t → t ∈ zD4 o.op) → s2.look z = s.look z := fun z hz => zGU (fun t ht => hv.1 t (List.mem_append_left _ ht)) hz
  have hmem : ∀ z, z ∈ x :: c.args.toList → ∀ t, z = .tmp t → t ∈ zD4 o.op := fun z hz t e => by rw [h1, zG3 h2]; exact zGs (by rw [← e]; exact hz)
  have ha : zDi s2 first captured c.args = zDi s first captured c.args := by
   unfold zDi
   congr 2
   exact List.map_congr_left fun z hz => by rw [hu z (hmem z (List.mem_cons_of_mem _ hz))]
  exact .inl ⟨c, x, f, first, captured, res, h1, h2, by rw [hu x (hmem x (List.mem_cons_self ..))]; exact h3, by rw [ha]; exact h4, by rw [ha]; exact h5, h6, by rw [hd]; rfl⟩
 ·by_cases hA : isA o.op = true
  ·obtain ⟨_, e2⟩ := zID (P := P) (s := s) (s2 := s) hA (fun _ _ => rfl)
   obtain ⟨e3, e4, _⟩ := e2 r h1
   obtain ⟨c, v, l, st⟩ := r
   simp only at e3 e4
   subst e3; subst e4
   refine ⟨v, none, fun u hu => (by cases hu), fun _ b o hb => (by cases hb), fun b o hb => (by cases hb), by rw [hd]; rfl, fun s2 hv => ?_⟩
   obtain ⟨e1, _⟩ := zID (P := P) (s := st) (s2 := s2) hA (fun x hx => zGU (fun t ht => hv.1 t (List.mem_append_left _ ht)) hx)
   rw [h1] at e1
   exact .inr ⟨_, e1, h2, gd_A hA, by rw [hd]; rfl⟩
  ·have hA' : isA o.op = false := by simpa using hA
   have hML : zEz o.op = true ∨ zDw o.op = true := by simpa [hA'] using hc
   cases ho : o.op <;> rw [ho] at hML <;> simp only [zEz, zDw, Bool.false_eq_true, or_self, or_false, false_or] at hML
   case move x =>
    rw [ho] at h1
    cases h1
    refine ⟨s.look x, s.loanOf x, fun u hu => ?_, fun _ b off hb => ?_, fun b off hb => ?_, by rw [hd]; rfl, fun s2 hv => ?_⟩
    ·cases x with
     | tmp t =>
      simp only [AState.loanOf] at hu
      split at hu
      ·cases hu; simp [zD4, zFU]
      ·cases hu
     | _ => cases hu
    ·cases x with
     | tmp t =>
      simp only [AState.loanOf] at hb
      split at hb <;> cases hb
     | _ => cases hb
    ·cases x with
     | tmp t =>
      simp only [AState.loanOf] at hb
      split at hb <;> cases hb
     | _ => cases hb
    ·have e : s2.look x = s.look x ∧ s2.loanOf x = s.loanOf x := by
      cases x with
      | tmp t =>
       have := hv.2.1 hA' t (List.mem_append_left _ (by rw [ho]; simp [zD4, zFU]))
       simp only [AState.look, AState.ev, AState.loanOf, this, and_self]
      | _ => exact ⟨rfl, rfl⟩
     exact .inr ⟨zIQ s2 x, by rw [ho]; rfl, trivial, by rw [ho]; trivial, by rw [hd]; simp only [AState.putR, zIQ, e.1, e.2]⟩
   case load t x =>
    rw [ho] at h1 hgd
    simp only [zHc] at h1
    have hxu : ∀ t', x = .tmp t' → t' ∈ zD4 o.op := fun t' e => by rw [ho]; exact zGs (by rw [e]; exact List.mem_cons_self ..)
    have hlook : ∀ s2, zI5 B ops o s s2 → s2.look x = s.look x := fun s2 hv => zGU (fun t ht => hv.1 t (List.mem_append_left _ ht)) hxu
    unfold zGj at h1
    split at h1
    ·rename_i b off hx
     split at h1
     ·rename_i side v hl
      cases h1
      refine ⟨v, _, fun u hu => ?_, fun hh => (by simp [zDw] at hh), fun b' o' hb' => ?_, by rw [hd]; rfl, fun s2 hv => ?_⟩
      ·split at hu
       ·split at hu <;> cases hu
       ·cases hu
      ·split at hb'
       ·split at hb'
        ·cases hb'; exact hgd.imp id fun h => h _ _ hx
        ·cases hb'
       ·cases hb'
      ·have hlk := hlook s2 hv
       have hb : s2.blocks.getD b [] = s.blocks.getD b [] ∧ b < s2.blocks.length := by
        cases x with
        | tmp t' =>
         refine hv.2.2 (by rw [ho]; rfl) t' b off (hxu t' rfl) ?_ h2.1 (hgd.imp id fun h => h _ _ hx)
         have hx' : (s.get t').copy = .mptr b off := hx
         cases hg : s.get t' <;> rw [hg] at hx' <;> simp at hx'
         rw [hx'.1, hx'.2]
        | const w =>
         have hx' : (AV.ofConst w).copy = .mptr b off := hx
         exfalso
         unfold AV.ofConst AV.ofConst1 at hx'
         split at hx'
         ·cases hx'
         ·split at hx' <;> first | cases hx' | (split at hx' <;> cases hx')
        | global g => cases hx
        | func f => cases hx
       refine .inr ⟨⟨b < s2.blocks.length ∧ side, v, if ((s.blocks.getD b []).getD off .top).owns then (if isAggB P t = some false then some (.cell b off) else none) else none, s2⟩, ?_, ⟨hb.2, h2.2⟩, by rw [ho]; show B = [] ∨ _; rw [hlk]; exact hgd, by rw [hd]; rfl⟩
       rw [ho]
       simp only [zHc, zGj, hlk, hx, hb.1, hl]
     ·cases h1
    ·rename_i cells hx
     split at h1
     ·rename_i side v hl
      cases h1
      refine ⟨v, none, fun u hu => (by cases hu), fun _ b o hb => (by cases hb), fun b o hb => (by cases hb), by rw [hd]; rfl, fun s2 hv => ?_⟩
      exact .inr ⟨⟨side, v, none, s2⟩, by rw [ho]; simp only [zHc, zGj, hlook s2 hv, hx, hl], h2, by rw [ho]; show B = [] ∨ _; rw [hlook s2 hv]; exact hgd, by rw [hd]; rfl⟩
     ·cases h1
    ·cases h1
theorem zIc {x y : AV} (h : x.copy = y.copy) {b : Bool} (hy : y = .bool b) : x = .bool b := by
 subst hy; cases x <;> simp at h; rw [h]
theorem get_of_copy' {x y : AV} (h : x.copy = y.copy) (hy : y = .tup []) : x = .tup [] := by
 subst hy; cases x <;> simp at h; rw [h]
theorem zH9 {P : Program} {B : List Nat} {ops : Array Oper} {o : Oper} {d : Nat} (hd : o.dst = some d) (hc : (isA o.op || zEz o.op || zDw o.op) = true) {s s' : AState} (h : GStep P B ops o s s') :
  ∃ v l, (∀ u, l = some (.tmp u) → u ∈ zD4 o.op) ∧ (zDw o.op = false → notCell l) ∧ (∀ b o, l = some (.cell b o) → B = [] ∨ b ∉ B) ∧ s' = s.putL d v l ∧ ∀ s2, zI5 B ops o s s2 → GStep P B ops o s2 (s2.putL d v l) := by
 unfold GStep at h
 cases hg : o.guard with
 | none =>
  rw [hg] at h
  obtain ⟨v, l, h1, h2, h2', h3, h4⟩ := zHq (ops := ops) hd hc h
  exact ⟨v, l, h1, h2, h2', h3, fun s2 hv => by unfold GStep; rw [hg]; exact h4 s2 hv⟩
 | some q =>
  obtain ⟨j, want⟩ := q
  rw [hg] at h
  obtain ⟨g, hgj, hh⟩ := h
  have hgu : g ∈ usesG ops o := List.mem_append_right _ (by simp [hg, hgj])
  rcases hh with ⟨b, hb, ⟨hw, hs⟩ | ⟨hw, rfl⟩⟩ | ⟨hb, rfl⟩
  ·obtain ⟨v, l, h1, h2, h2', h3, h4⟩ := zHq (ops := ops) hd hc hs
   exact ⟨v, l, h1, h2, h2', h3, fun s2 hv => by unfold GStep; rw [hg]; exact ⟨g, hgj, .inl ⟨b, zIc (hv.1 g hgu) hb, .inl ⟨hw, h4 s2 hv⟩⟩⟩⟩
  ·exact ⟨.tup [], none, fun u hu => (by cases hu), fun _ b o hb => (by cases hb), fun b o hb => (by cases hb), by rw [hd]; rfl, fun s2 hv => by
    unfold GStep; rw [hg]; exact ⟨g, hgj, .inl ⟨b, zIc (hv.1 g hgu) hb, .inr ⟨hw, by rw [hd]; rfl⟩⟩⟩⟩
  ·exact ⟨.tup [], none, fun u hu => (by cases hu), fun _ b o hb => (by cases hb), fun b o hb => (by cases hb), by rw [hd]; rfl, fun s2 hv => by
    unfold GStep; rw [hg]; exact ⟨g, hgj, .inr ⟨get_of_copy' (hv.1 g hgu) hb, by rw [hd]; rfl⟩⟩⟩
def okPair (B : List Nat) (ops : Array Oper) (a x : Oper) : Bool :=
 match a.dst with
 | none => false
 | some d => !(usesG ops a).contains d && !(usesG ops x).contains d &&
  (match x.dst with | none => true | some e => e != d && !(usesG ops a).contains e) &&
  (isA a.op || ((zEz a.op || zDw a.op) && (isA x.op || zEz x.op || zDw x.op || isNew x.op || (!B.isEmpty && isPut x.op))))
theorem zFZ {B : List Nat} {ops : Array Oper} {a x : Oper} (h : okPair B ops a x = true) : ∃ d, a.dst = some d ∧ d ∉ usesG ops a ∧ d ∉ usesG ops x ∧
  (∀ e, x.dst = some e → e ≠ d ∧ e ∉ usesG ops a) ∧ (isA a.op = true ∨ (isA a.op = false ∧ (zEz a.op || zDw a.op) = true ∧ ((isA x.op || zEz x.op || zDw x.op || isNew x.op) = true ∨ (B ≠ [] ∧ isPut x.op = true)))) := by
 unfold okPair at h
 cases hd : a.dst with
 | none => rw [hd] at h; cases h
 | some d =>
  rw [hd] at h
  simp only [Bool.and_eq_true, Bool.not_eq_true', List.contains_eq_mem, decide_eq_false_iff_not] at h
  obtain ⟨⟨⟨h0, h1⟩, h3⟩, h4⟩ := h
  refine ⟨d, rfl, h0, h1, fun e he => ?_, ?_⟩
  ·rw [he] at h3
   simpa using h3
  ·cases hA : isA a.op with
   | true => exact .inl rfl
   | false =>
    rw [hA] at h4; simp only [Bool.false_or, Bool.and_eq_true] at h4
    refine .inr ⟨rfl, h4.1, ?_⟩
    cases hx : (isA x.op || zEz x.op || zDw x.op || isNew x.op) with
    | true => exact .inl rfl
    | false =>
     have h5 := h4.2
     rw [hx] at h5
     simp only [Bool.false_or, Bool.and_eq_true, Bool.not_eq_true', List.isEmpty_eq_false_iff] at h5
     exact .inr h5
theorem zGx {α : Type} {l bl : List α} {b : Nat} {z : α} (h : b < l.length) : (l ++ bl).getD b z = l.getD b z := by
 rw [List.getD_eq_getElem?_getD, List.getElem?_append_left h, ← List.getD_eq_getElem?_getD]
theorem swap {P : Program} {B : List Nat} {ops : Array Oper} {a x : Oper} (hok : okPair B ops a x = true) {s : AState} (hfree : ∀ d, a.dst = some d → s.free d) (hn : ∀ d, a.dst = some d → d < s.n) :
  (∀ s1 s2, GStep P B ops a s s1 → GStep P B ops x s1 s2 → ∃ s', GStep P B ops x s s' ∧ GStep P B ops a s' s2) ∧
  (∀ s1 s2, GStep P B ops x s s1 → GStep P B ops a s1 s2 → (zDw a.op = true → ∀ t, t ∈ zD4 a.op → (s.get t).under s.blocks.length = true) → ∃ s', GStep P B ops a s s' ∧ GStep P B ops x s' s2) := by
 obtain ⟨d, hd, h0, h1, h3, h4⟩ := zFZ hok
 have hdn := hn d hd
 have hfree := hfree d hd
 have hc : (isA a.op || zEz a.op || zDw a.op) = true := by
  rcases h4 with h4 | ⟨_, h4, _⟩
  ·simp [h4]
  ·rw [Bool.or_assoc, h4]; simp
 have hstore : zDw a.op = true → isStore x.op = false ∨ B ≠ [] := fun hl => by
  rcases h4 with h4 | ⟨_, _, h4 | h4⟩
  ·exfalso; cases ho : a.op <;> rw [ho] at hl h4 <;> simp [zDw, isA] at hl h4
  ·left; cases ho : x.op <;> rw [ho] at h4 <;> simp [isA, zEz, zDw, isNew, isStore] at h4 ⊢
  ·exact .inr h4.1
 have hokl : ∀ l : Option Place, (zDw a.op = false → notCell l) → (∀ b o, l = some (.cell b o) → B = [] ∨ b ∉ B) → okL B x.op l := fun l y2 y3 => by
  cases hl : zDw a.op with
  | false => exact .inl (y2 hl)
  | true =>
   rcases hstore hl with h5 | h5
   ·exact .inr (.inl h5)
   ·exact .inr (.inr ⟨h5, fun b o hb => (y3 b o hb).resolve_left h5⟩)
 have hmv : ∀ l : Option Place, (∀ u, l = some (.tmp u) → u ∈ zD4 a.op) → l ≠ some (.tmp d) ∧ ∀ e, x.dst = some e → e ≠ d ∧ l ≠ some (.tmp e) := fun l hl =>
  ⟨fun e => h0 (List.mem_append_left _ (hl d e)), fun e he => ⟨(h3 e he).1, fun e2 => (h3 e he).2 (List.mem_append_left _ (hl e e2))⟩⟩
 have hxd : x.dst ≠ some d := fun e => (h3 d e).1 rfl
 have hfr : ∀ s s', GStep P B ops x s s' → s'.n = s.n ∧ (∀ t, t ∈ usesG ops a → (s'.get t).copy = (s.get t).copy) ∧ (s.free d → s'.free d) ∧
   (isA a.op = false → (∀ t, t ∈ usesG ops a → s'.get t = s.get t) ∧ s.blocks.length ≤ s'.blocks.length ∧ (zDw a.op = true → isNew x.op = false → s'.blocks.length = s.blocks.length) ∧ ∀ b, b < s.blocks.length → (B = [] ∨ b ∉ B) → s'.blocks.getD b [] = s.blocks.getD b []) := fun s s' hx => by
  obtain ⟨f1, f2, f3, f4⟩ := zHI hx
  refine ⟨f1, fun t ht => f2 t (fun e => (h3 t e).2 ht), fun hS t hl => ?_, fun hA => ?_⟩
  ·rcases f3 t d hl with h5 | ⟨_, h5⟩
   ·exact hS t h5
   ·exact h1 (List.mem_append_left _ h5)
  ·rcases h4 with h4 | ⟨_, _, h4 | ⟨hB, h4⟩⟩
   ·rw [hA] at h4; cases h4
   ·obtain ⟨g1, bl, g2, g3⟩ := f4 h4
    refine ⟨fun t ht => g1 t (fun e => (h3 t e).2 ht), by rw [g2, List.length_append]; omega, fun _ hn => by rw [g2, g3 hn]; simp, fun b hb _ => by rw [g2]; exact zGx hb⟩
   ·obtain ⟨g1, g2, g3⟩ := zIa hB h4 hx
    exact ⟨fun t ht => g1 t (fun e => (h3 t e).2 ht), by omega, fun _ _ => g2, fun b _ hb => g3 b (hb.resolve_left hB)⟩
 constructor
 ·intro s1 s2 ha hx
  obtain ⟨v, l, y1, y2, y3, rfl, y4⟩ := zH9 (ops := ops) hd hc ha
  obtain ⟨m1, m2⟩ := hmv l y1
  rw [zGA s d hdn hfree m1] at hx
  obtain ⟨s', hx', rfl⟩ := (gstep_upd (hokl l y2 y3) hfree h1 m2).1 hx
  obtain ⟨f1, f2, f3, f4⟩ := hfr s s' hx'
  refine ⟨s', hx', ?_⟩
  have := y4 s' ⟨f2, fun hA => (f4 hA).1, fun hl t b off ht hg hb hB => ?_⟩
  ·rw [zGA s' d (by rw [f1]; exact hdn) (f3 hfree) m1] at this; exact this
  ·have hA : isA a.op = false := by cases ho : a.op <;> rw [ho] at hl <;> simp [zDw] at hl; rfl
   obtain ⟨_, g2, _, g4⟩ := f4 hA
   exact ⟨g4 b hb hB, by omega⟩
 ·intro s1 s2 hx ha hun
  obtain ⟨v, l, y1, y2, y3, rfl, y4⟩ := zH9 (ops := ops) hd hc ha
  obtain ⟨m1, m2⟩ := hmv l y1
  obtain ⟨f1, f2, f3, f4⟩ := hfr s s1 hx
  have hview : zI5 B ops a s1 s := ⟨fun t ht => (f2 t ht).symm, fun hA t ht => ((f4 hA).1 t ht).symm, fun hl t b off ht hg hb hB => by
   have hA : isA a.op = false := by cases ho : a.op <;> rw [ho] at hl <;> simp [zDw] at hl; rfl
   obtain ⟨g1, g2, g3, g4⟩ := f4 hA
   have hu := hun hl t ht
   rw [← g1 t (List.mem_append_left _ ht), hg] at hu
   have hb' : b < s.blocks.length := by simpa [AV.under] using hu
   exact ⟨(g4 b hb' hB).symm, hb'⟩⟩
  have h5 := y4 s hview
  rw [zGA s d hdn hfree m1] at h5
  refine ⟨_, h5, ?_⟩
  rw [zGA s1 d (by rw [f1]; exact hdn) (f3 hfree) m1]
  exact (gstep_upd (hokl l y2 y3) hfree h1 m2).2 ⟨s1, hx, rfl⟩
mutual
theorem zHi {m m' : Nat} (h : m ≤ m') : ∀ x : AV, x.under m = true → x.under m' = true
 | .mptr b o, hx => by simp only [AV.under, decide_eq_true_eq] at hx ⊢; omega
 | .baddr t b, hx => by simp only [AV.under, decide_eq_true_eq] at hx ⊢; omega
 | .fn f fs cs, hx => by simp only [AV.under, Bool.and_eq_true] at hx ⊢; exact ⟨zFT h fs hx.1, zFT h cs hx.2⟩
 | .iface t v, hx => by simp only [AV.under] at hx ⊢; exact zHi h v hx
 | .agg cs, hx => by simp only [AV.under] at hx ⊢; exact zFT h cs hx
 | .tup cs, hx => by simp only [AV.under] at hx ⊢; exact zFT h cs hx
 | .int _ _, _ => rfl
 | .bool _, _ => rfl
 | .str _, _ => rfl
 | .nilp, _ => rfl
 | .cptr _, _ => rfl
 | .nsl, _ => rfl
 | .osl _ _, _ => rfl
 | .sl _, _ => rfl
 | .nilfn, _ => rfl
 | .nilif, _ => rfl
 | .top, _ => rfl
theorem zFT {m m' : Nat} (h : m ≤ m') : ∀ l : List AV, AV.underL m l = true → AV.underL m' l = true
 | [], _ => rfl
 | x :: l, hx => by simp only [AV.underL, Bool.and_eq_true] at hx ⊢; exact ⟨zHi h x hx.1, zFT h l hx.2⟩
end
def Chain (P : Program) (B : List Nat) (ops : Array Oper) : List Nat → AState → AState → Prop
 | [], s, s' => s' = s
 | i :: l, s, s' => ∃ o s1, ops[i]? = some o ∧ GStep P B ops o s s1 ∧ Chain P B ops l s1 s'
def comm (B : List Nat) (ops : Array Oper) (i j : Nat) : Bool :=
 match ops[i]?, ops[j]? with
 | some a, some b => okPair B ops a b || okPair B ops b a
 | _, _ => false
def mvBad (ops : Array Oper) (k i : Nat) : Prop := ∃ ok oi u, ops[k]? = some ok ∧ ops[i]? = some oi ∧ zEz ok.op = true ∧ u ∈ zD4 ok.op ∧ oi.dst = some u
def LFree (ops : Array Oper) (l : List Nat) (s : AState) : Prop := ∀ i, i ∈ l → ∀ o d, ops[i]? = some o → o.dst = some d → s.free d
def dstsIn (ops : Array Oper) (n : Nat) : Prop := ∀ (i : Nat) o d, ops[i]? = some o → o.dst = some d → d < n
theorem front {P : Program} {B : List Nat} {ops : Array Oper} {j : Nat} {oj : Oper} (hj : ops[j]? = some oj) : ∀ (u1 : List Nat) (s s' : AState), Chain P B ops (u1 ++ [j]) s s' → (∀ k, k ∈ u1 → comm B ops k j = true) →
  LFree ops (u1 ++ [j]) s → (u1 ++ [j]).Pairwise (fun k i => ¬ mvBad ops k i) → dstsIn ops s.n → (zDw oj.op = true → ∀ t, t ∈ zD4 oj.op → (s.get t).under s.blocks.length = true) → ∃ s1, GStep P B ops oj s s1 ∧ Chain P B ops u1 s1 s' := by
 intro u1
 induction u1 with
 | nil =>
  rintro s s' ⟨o, s1, h1, h2, rfl⟩ _ _ _ _ _
  rw [hj] at h1; cases h1
  exact ⟨_, h2, rfl⟩
 | cons k u1 ih =>
  rintro s s' ⟨ok, sk, h1, h2, h3⟩ hcm hS hpw hn hun
  rw [List.cons_append, List.pairwise_cons] at hpw
  have hkj := hcm k (List.mem_cons_self ..)
  simp only [comm, h1, hj, Bool.or_eq_true] at hkj
  obtain ⟨f1, f2, f3, f4⟩ := zHI h2
  have hS' : LFree ops (u1 ++ [j]) sk := fun i hi o d ho hd t hl => by
   rcases f3 t d hl with h | ⟨hm, h⟩
   ·exact hS i (List.mem_cons_of_mem _ hi) o d ho hd t h
   ·exact hpw.1 i hi ⟨ok, o, d, h1, ho, hm, h, hd⟩
  have hdst : ∀ e, ok.dst = some e → e ∉ zD4 oj.op := fun e he hmem => by
   rcases hkj with h | h
   ·obtain ⟨d, hd, _, hx, _⟩ := zFZ h
    rw [he] at hd; cases hd
    exact hx (List.mem_append_left _ hmem)
   ·obtain ⟨d, hd, _, _, hx, _⟩ := zFZ h
    exact (hx e he).2 (List.mem_append_left _ hmem)
  have hun' : zDw oj.op = true → ∀ t, t ∈ zD4 oj.op → (sk.get t).under sk.blocks.length = true := fun hl t ht => by
   have hcalm : (isA ok.op || zEz ok.op || zDw ok.op || isNew ok.op) = true ∨ (B ≠ [] ∧ isPut ok.op = true) := by
    rcases hkj with h | h
    ·obtain ⟨_, _, _, _, _, hx⟩ := zFZ h
     rcases hx with hx | ⟨_, hx, _⟩
     ·left; simp [hx]
     ·left; rw [Bool.or_assoc (isA ok.op), hx]; simp
    ·obtain ⟨_, _, _, _, _, hx⟩ := zFZ h
     rcases hx with hx | ⟨_, _, hx | hx⟩
     ·cases ho : oj.op <;> rw [ho] at hl hx <;> simp [zDw, isA] at hl hx
     ·exact .inl hx
     ·exact .inr hx
   rcases hcalm with hcalm | ⟨hB, hst⟩
   ·obtain ⟨g1, bl, g2, _⟩ := f4 hcalm
    rw [g1 t (fun e => hdst t e ht), g2, List.length_append]
    have := hun hl t ht
    revert this
    generalize s.get t = y
    intro hy
    exact zHi (by omega) _ hy
   ·obtain ⟨g1, g2, _⟩ := zIa hB hst h2
    rw [g1 t (fun e => hdst t e ht), g2]; exact hun hl t ht
  have hsw : ∀ sj, GStep P B ops oj sk sj → ∃ s1, GStep P B ops oj s s1 ∧ GStep P B ops ok s1 sj := fun sj hsj => by
   rcases hkj with h | h
   ·exact (swap h (fun d hd => hS k (List.mem_cons_self ..) ok d h1 hd) (fun d hd => hn k ok d h1 hd)).1 sk sj h2 hsj
   ·exact (swap h (fun d hd => hS j (List.mem_cons_of_mem _ (List.mem_append_right _ (List.mem_singleton_self _))) oj d hj hd) (fun d hd => hn j oj d hj hd)).2 sk sj h2 hsj hun
  obtain ⟨sj, e1, e2⟩ := ih sk s' h3 (fun q hq => hcm q (List.mem_cons_of_mem _ hq)) hS' hpw.2 (by rw [f1]; exact hn) hun'
  obtain ⟨s1, g1, g2⟩ := hsw sj e1
  exact ⟨s1, g1, ok, sj, h1, g2, e2⟩
theorem StepD.toA {P : Program} {B : List Nat} {o : Oper} {s s' : AState} (h : StepD P B o s s') : StepOk P o s s' := by
 rcases h with ⟨c, x, f, first, captured, res, h1, h2, h3, h4, h5, h6, rfl⟩ | ⟨r, h1, h2, _, rfl⟩
 ·exact zH5 h1 h2 h3 h4 h5 h6
 ·exact (absOp_ok h1 h2).step
theorem GStep.sound {P : Program} {B : List Nat} {ops : Array Oper} {o : Oper} {s s' : AState} (h : GStep P B ops o s s') {F : Fx} {g : Gh} {a : Act} {w : World} (hs : Sim F g s a w)
  {K : Act → World → Prop} {Q : Exit → Act → World → Prop} (hK : ∀ g' a' w', Sim F g' s' a' w' → K a' w') :
  if Region.wanted o (yielded ops a.tmps) then o.wp P a w K Q else K (a.put o.dst undef) w := by
 have step : StepD P B o s s' → o.wp P a w K Q := fun h => h.toA F g a w hs K Q hK
 have skip : s' = s.putO o.dst (.tup []) → K (a.put o.dst undef) w := fun h => by
  obtain ⟨g', hs'⟩ := hs.putUndef o.dst
  exact hK _ _ _ (by rw [h]; exact hs')
 unfold GStep at h
 cases hg : o.guard with
 | none =>
  rw [hg] at h
  rw [if_pos (by simp [Region.wanted, hg])]
  exact step h
 | some q =>
  obtain ⟨j, want⟩ := q
  rw [hg] at h
  obtain ⟨d, hd, hh⟩ := h
  have hr := (hs.tmps d).1
  have boolv : ∀ b, s.get d = .bool b → yielded ops a.tmps j = some b := fun b hb => by
   have hb' : s.tmps d = .bool b := hb
   rw [hb'] at hr
   exact zGI hd (by cases hh : a.tmps.getD d undef <;> rw [hh] at hr <;> cases hr; rfl)
  rcases hh with ⟨b, hb, ⟨hw, hst⟩ | ⟨hw, hsk⟩⟩ | ⟨hb, hsk⟩
  ·rw [if_pos (by simp [Region.wanted, hg, boolv b hb, hw])]
   exact step hst
  ·rw [if_neg (by simp [Region.wanted, hg, boolv b hb, hw])]
   exact skip hsk
  ·have hb' : s.tmps d = .tup [] := hb
   rw [hb'] at hr
   have hv : a.tmps.getD d undef = undef := by
    cases hh : a.tmps.getD d undef <;> rw [hh] at hr <;> cases hr
    rename_i vs hsz _
    have : vs = #[] := by simpa using hsz
    subst this; rfl
   rw [if_neg (by simp [Region.wanted, hg, zFq hd hv])]
   exact skip hsk
theorem zFj {P : Program} {B : List Nat} {ops : Array Oper} : ∀ (l l' : List Nat) (s s' : AState), Chain P B ops (l ++ l') s s' ↔ ∃ m, Chain P B ops l s m ∧ Chain P B ops l' m s'
 | [], l', s, s' => ⟨fun h => ⟨s, rfl, h⟩, fun ⟨m, h1, h2⟩ => by cases h1; exact h2⟩
 | i :: l, l', s, s' => by
  constructor
  ·rintro ⟨o, s1, h1, h2, h3⟩
   obtain ⟨m, h4, h5⟩ := (zFj l l' s1 s').1 h3
   exact ⟨m, ⟨o, s1, h1, h2, h4⟩, h5⟩
  ·rintro ⟨m, ⟨o, s1, h1, h2, h4⟩, h5⟩
   exact ⟨o, s1, h1, h2, (zFj l l' s1 s').2 ⟨m, h4, h5⟩⟩
def zFa (o : Oper) : List Nat := (o.after.toList.filter (Region.binds .any)).map (·.on)
def zHM (ops : List Oper) : List (List Nat) := ops.foldl (fun acc o => acc ++ [((zFa o).flatMap fun e => e :: acc.getD e []).eraseDups]) []
def dstOk (n : Nat) : Option Nat → Bool
 | some d => d < n
 | none => true
def mvOk (ops : Array Oper) : Bool :=
 ops.toList.zipIdx.all fun (o, k) => !zEz o.op || ops.toList.zipIdx.all fun (x, i) => match x.dst with
  | some u => !(zD4 o.op).contains u || ((zHM ops.toList).getD k []).contains i
  | none => true
theorem zIX {ops : Array Oper} {i : Nat} {o : Oper} (h : ops[i]? = some o) : (o, i) ∈ ops.toList.zipIdx := by
 rw [List.mk_mem_zipIdx_iff_getElem?]; simpa using h
theorem mvOk_spec {ops : Array Oper} (h : mvOk ops = true) {k i : Nat} (hb : mvBad ops k i) : i ∈ (zHM ops.toList).getD k [] := by
 obtain ⟨ok, oi, u, h1, h2, h3, h4, h5⟩ := hb
 have := List.all_eq_true.1 h (ok, k) (zIX h1)
 simp only [h3, Bool.not_true, Bool.false_or] at this
 have := List.all_eq_true.1 this (oi, i) (zIX h2)
 simp only [h5, Bool.or_eq_true, Bool.not_eq_true', List.contains_eq_mem, decide_eq_false_iff_not, decide_eq_true_eq] at this
 rcases this with h | h
 ·exact absurd h4 h
 ·exact h
def regOk (B : List Nat) (ops : Array Oper) (n : Nat) : Bool :=
 mvOk ops &&
 (ops.toList.zipIdx.all fun (o, j) => (zFa o).all (· < j) && dstOk n o.dst) &&
 (List.range ops.size).all fun j => (List.range j).all fun k => ((zHM ops.toList).getD j []).contains k || comm B ops k j
end Go.Abs
