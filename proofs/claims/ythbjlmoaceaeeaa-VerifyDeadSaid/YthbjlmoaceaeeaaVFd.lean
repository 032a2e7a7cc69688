/- For every input the law VerifyDead returns true. Part 4 of 13. No condition. -/
import Derived.Test.YthbjlmoaceaeeaaVFc
import Derived.Laws.MakeOwn
set_option linter.unusedVariables false
set_option linter.unusedSimpArgs false
namespace Go.Abs
open Go
def resLen (P : Program) (s : AState) (ts : Array TypeId) (x : Operand) : Option Res :=
  match ts[0]? with
  | some t => match P.underlying t, s.look x with
    | some .string, .str l => some ⟨True, .int .i64 l.length, none, s⟩
    | some (.slice _), v => match elems v with
      | some l => some ⟨True, .int .i64 l.length, none, s⟩
      | none => none
    | _, _ => none
  | none => none
theorem ok_len (P : Program) (o : Oper) (s : AState) (ts : Array TypeId) (x : Operand) (ho : o.op = .call { callee := .builtin .len, args := #[x], argTypes := ts }) (r : Res)
    (hr : resLen P s ts x = some r) (hs : r.side) : OpOk P o s r := by
  unfold resLen at hr
  split at hr
  case h_2 => cases hr
  rename_i t h0
  split at hr
  · rename_i l hu hx
    cases hr
    refine .same rfl fun F g a w h => ?_
    obtain ⟨b, hb, hl, hbd⟩ := eval_str h hx
    have hsz : b.size = l.length := by rw [size_length, hl]
    exact ⟨.int .i64 l.length, by simp [execOp, ho, resolve, invoke, builtin, Builtin.len_, h0, hb, underlying, hu, goInt, hsz], .int _ _ (by simp only [inR]; omega), fun p hp => by cases hp⟩
  · rename_i e hu
    split at hr
    case h_2 => cases hr
    rename_i l hl
    cases hr
    refine .same rfl fun F g a w h => ?_
    obtain ⟨base, cap, hv, _, hbd, _⟩ := rep_elems (look_rep h x) hl
    exact ⟨.int .i64 l.length, by simp [execOp, ho, resolve, invoke, builtin, Builtin.len_, h0, hv, underlying, hu, goInt], .int _ _ (by simp only [inR]; omega), fun p hp => by cases hp⟩
  · cases hr
def bound (s : AState) (d : Int) : Option Operand → Option Int
  | none => some d
  | some x => match s.look x with
    | .int _ n => some n
    | _ => none
theorem run_bound {F : Fx} {g : Gh} {s : AState} {a : Act} {w : World} (h : Sim F g s a w) {P : Program} {x : Operand} {n : Int} {k : IntKind} (hx : s.look x = .int k n) {y : Nat} (code : BoundsCode) (h0 : 0 ≤ n) (h1 : n ≤ y) :
    (Instr.sliceBound (a.eval x) y code).run P w = .ok n.toNat w := by
  rw [eval_int h hx]; exact run_sliceBound w k n y code h0 h1
def InB (a b : Int) (n : Nat) : Prop := 0 ≤ a ∧ a ≤ b ∧ b ≤ n
def sub {α : Type} (l : List α) (a b : Int) : List α := (l.drop a.toNat).take (b.toNat - a.toNat)
def EL (n : Nat) (l : List (List AV)) : Prop := ∀ e, e ∈ l → e.length = n
def resSlice (P : Program) (s : AState) (t : TypeId) (x : Operand) (lo hi : Option Operand) : Option Res :=
  match P.underlying t with
  | some .string => match s.look x with
    | .str l => match bound s 0 lo, bound s l.length hi with
      | some a, some b => some ⟨InB a b l.length, .str (sub l a b), none, s⟩
      | _, _ => none
    | _ => none
  | some (.slice e) => match elems (s.look x), P.info? e with
    | some l, some i => match bound s 0 lo, bound s l.length hi with
      | some a, some b => some ⟨InB a b l.length ∧ EL i.size l, .sl (sub l a b), none, s⟩
      | _, _ => none
    | _, _ => none
  | _ => none
theorem run_hi {F : Fx} {g : Gh} {s : AState} {a : Act} {w : World} (h : Sim F g s a w) {P : Program} {hi : Option Operand} {n m : Nat} {q : Int} (hq : bound s n hi = some q) (h0 : 0 ≤ q) (hm : q ≤ m) (code : BoundsCode) :
    ((match hi.map a.eval with | some v => Instr.sliceBound v m code | none => pure n : Sem Nat)).run P w = .ok q.toNat w := by
  cases hi with
  | none => simp only [bound, Option.some.injEq] at hq; subst hq; simp
  | some y =>
    simp only [bound] at hq
    split at hq
    · rename_i k n hn
      cases hq
      exact run_bound h hn code (by omega) (by omega)
    · cases hq
theorem ok_slice (P : Program) (o : Oper) (s : AState) (t : TypeId) (x : Operand) (lo hi : Option Operand) (ho : o.op = .slice t x lo hi none) (r : Res) (hr : resSlice P s t x lo hi = some r) (hs : r.side) :
    OpOk P o s r := by
  unfold resSlice at hr
  split at hr
  · rename_i hu
    split at hr
    case h_2 => cases hr
    rename_i l hx
    split at hr
    case h_2 => cases hr
    rename_i p q hp hq
    cases hr
    obtain ⟨h0, h1, h2⟩ := hs
    refine .same rfl fun F g a w h => ?_
    obtain ⟨b, hb, hl, hbd⟩ := eval_str h hx
    have hsz : b.size = l.length := by rw [size_length, hl]
    refine ⟨.string (b.extract p.toNat q.toNat), ?_, .str _ _ ?_ (by unfold sub; rw [List.length_take, List.length_drop]; omega), fun p hp => by cases hp⟩
    · have hh := fun code => run_hi h (P := P) hq (by omega) (m := b.size) (by omega) code
      have hlo := fun code => run_hi h (P := P) (n := 0) hp h0 (m := q.toNat) (by omega) code
      rw [← hsz] at hh
      simp only [execOp, ho, Instr.sliceAt, underlying, Sem.run_bind, run_program, Result.andThen_ok, hu, Sem.run_pure, Option.map_none, Instr.slice, hb, Instr.sliceBounds, Option.isSome_none, Bool.false_eq_true, if_false]
      cases hi with
      | none =>
        have := hh .sliceAlen
        cases lo with
        | none => have h3 := hlo .sliceB; simp_all
        | some y => have h3 := hlo .sliceB; simp_all
      | some z =>
        have := hh .sliceAlen
        cases lo with
        | none => have h3 := hlo .sliceB; simp_all
        | some y => have h3 := hlo .sliceB; simp_all
    · rw [Lib.extract_data, hl]; rfl
  · rename_i e hu
    split at hr
    case h_2 => cases hr
    rename_i l i hl hi'
    split at hr
    case h_2 => cases hr
    rename_i p q hp hq
    cases hr
    obtain ⟨⟨h0, h1, h2⟩, hel⟩ := hs
    refine .same rfl fun F g a w h => ?_
    obtain ⟨base, cap, hv, hcap, hbd, hels⟩ := rep_elems (look_rep h x) hl
    refine ⟨.slice (if cap = p.toNat then base else base.map (·.add (p.toNat * i.size))) (q.toNat - p.toNat) (cap - p.toNat), ?_, ?_, fun p hp => by cases hp⟩
    · have hh := fun code => run_hi h (P := P) hq (by omega) (m := cap) (by omega) code
      have hlo := fun code => run_hi h (P := P) (n := 0) hp h0 (m := q.toNat) (by omega) code
      simp only [execOp, ho, Instr.sliceAt, underlying, Sem.run_bind, run_program, Result.andThen_ok, hu, Sem.run_pure, Option.map_none, Instr.slice, hv, Instr.sliceBounds, Option.isSome_none, Bool.false_eq_true, if_false, sizeOf, typeInfo, hi', if_true]
      cases hi with
      | none =>
        have := hh .sliceAcap
        cases lo with
        | none => have h3 := hlo .sliceB; simp_all
        | some y => have h3 := hlo .sliceB; simp_all
      | some z =>
        have := hh .sliceAcap
        cases lo with
        | none => have h3 := hlo .sliceB; simp_all
        | some y => have h3 := hlo .sliceB; simp_all
    · have hlen : (sub l p q).length = q.toNat - p.toNat := by unfold sub; rw [List.length_take, List.length_drop]; omega
      have hget : ∀ (k : Nat) e, (sub l p q)[k]? = some e → k < q.toNat - p.toNat ∧ l[p.toNat + k]? = some e := fun k e hk => by
        have h3 := (List.getElem?_eq_some_iff.1 hk).1
        rw [hlen] at h3
        unfold sub at hk
        rw [List.getElem?_take, if_pos h3, List.getElem?_drop] at hk
        exact ⟨h3, hk⟩
      by_cases hcp : cap = p.toNat
      · have hnil : sub l p q = [] := List.length_eq_zero_iff.1 (by rw [hlen]; omega)
        rw [if_pos hcp, hnil, show q.toNat - p.toNat = 0 by omega, show cap - p.toNat = 0 by omega]
        cases base with
        | none => exact .sl0
        | some b => exact .sl 0 [] b 0 0 (fun _ _ => undef) rfl (Nat.le_refl _) (Nat.zero_le _) (fun k e hk => by simp at hk) (fun k e hk => by simp at hk) (fun k e hk => by simp at hk)
      · rw [if_neg hcp]
        cases base with
        | none =>
          have hnil : sub l p q = [] := by
            cases hc : sub l p q with
            | nil => rfl
            | cons y ys =>
              obtain ⟨_, h4⟩ := hget 0 y (by rw [hc]; rfl)
              obtain ⟨_, _, _, h5, _⟩ := hels _ _ h4
              cases h5
          have h6 : cap = 0 := by
            have := look_rep h x
            rw [hv] at this
            generalize s.look x = z at this hl
            generalize l.length = m at this
            cases this <;> first | rfl | cases hl
          omega
        | some b =>
          have hvs : ∃ vs : Nat → Nat → Value, ∀ (k : Nat) e, (sub l p q)[k]? = some e → ∀ (j : Nat) y, e[j]? = some y → g.imm ((b.add (p.toNat * i.size)).add (k * i.size + j)) = some (vs k j) ∧ Rep g.imm [] y (vs k j) := by
            refine ⟨fun k j => (g.imm (b.add ((p.toNat + k) * i.size + j))).getD undef, fun k e hk j y hy => ?_⟩
            obtain ⟨h3, h4⟩ := hget k e hk
            obtain ⟨b', ec, vs, h5, h6, h7⟩ := hels _ _ h4
            cases h5
            have h8 := hel e (List.mem_of_getElem? h4)
            have h9 := h7 j y hy
            rw [← h6, h8] at h9
            rw [add_add, show p.toNat * i.size + (k * i.size + j) = (p.toNat + k) * i.size + j by rw [Nat.add_mul]; omega]
            refine ⟨by simp only [h9.1, Option.getD_some], ?_⟩
            simp only [h9.1, Option.getD_some]
            exact h9.2
          obtain ⟨vs, hvs⟩ := hvs
          exact .sl i.size _ _ _ _ vs hlen.symm (by omega) (by omega) (fun k e hk => hel e (List.mem_of_getElem? (hget k e hk).2)) (fun k e hk j y hy => (hvs k e hk j y hy).1) (fun k e hk j y hy => (hvs k e hk j y hy).2)
  · cases hr
theorem foldl_write (off : Nat) : ∀ (l : List Value) (n : Nat) (c : Array Value), off + n + l.length ≤ c.size →
    let c' := (l.zipIdx n).foldl (fun cs (q : Value × Nat) => cs.setIfInBounds (off + q.2) q.1) c
    c'.size = c.size ∧ ∀ i, c'.getD i undef = if off + n ≤ i ∧ i < off + n + l.length then l.getD (i - (off + n)) undef else c.getD i undef := by
  intro l
  induction l with
  | nil => intro n c h; refine ⟨rfl, fun i => ?_⟩; rw [if_neg (by simp only [List.length_nil]; omega)]; rfl
  | cons v l ih =>
    intro n c h
    simp only [List.length_cons] at h
    simp only [List.zipIdx_cons, List.foldl_cons]
    obtain ⟨h1, h2⟩ := ih (n + 1) (c.setIfInBounds (off + n) v) (by simp; omega)
    refine ⟨by rw [h1]; simp, fun i => ?_⟩
    rw [h2, getD_set_eq]
    simp only [List.length_cons]
    by_cases e : i = off + n
    · subst e
      rw [if_neg (by omega), if_pos ⟨rfl, by omega⟩, if_pos (by omega)]
      simp
    · by_cases h3 : off + (n + 1) ≤ i ∧ i < off + (n + 1) + l.length
      · rw [if_pos h3, if_pos (by omega), show i - (off + n) = (i - (off + (n + 1))) + 1 by omega]; rfl
      · rw [if_neg h3, if_neg (by omega), if_neg (by omega)]
theorem foldl_zipIdx (c v : Array Value) (off : Nat) : v.zipIdx.foldl (fun cs (q : Value × Nat) => cs.setIfInBounds (off + q.2) q.1) c = (v.toList.zipIdx 0).foldl (fun cs (q : Value × Nat) => cs.setIfInBounds (off + q.2) q.1) c := by
  rw [← Array.foldl_toList, Array.toList_zipIdx]
def setRange (cells : List AV) (off : Nat) : List AV → List AV
  | [] => cells
  | x :: xs => setRange (cells.set off x) (off + 1) xs
theorem setRange_spec : ∀ (xs cells : List AV) (off : Nat), (setRange cells off xs).length = cells.length ∧
    ∀ (i : Nat) y, (setRange cells off xs)[i]? = some y → (off ≤ i ∧ xs[i - off]? = some y) ∨ (¬ (off ≤ i ∧ i < off + xs.length) ∧ cells[i]? = some y) := by
  intro xs
  induction xs with
  | nil => intro cells off; exact ⟨rfl, fun i y hy => .inr ⟨by simp only [List.length_nil]; omega, hy⟩⟩
  | cons x xs ih =>
    intro cells off
    obtain ⟨h1, h2⟩ := ih (cells.set off x) (off + 1)
    refine ⟨by simp only [setRange]; rw [h1]; simp, fun i y hy => ?_⟩
    simp only [setRange] at hy
    rcases h2 i y hy with ⟨h3, h4⟩ | ⟨h3, h4⟩
    · exact .inl ⟨by omega, by rw [show i - off = (i - (off + 1)) + 1 by omega]; simpa using h4⟩
    · rcases getElem?_set_cases h4 with ⟨rfl, h5, rfl⟩ | ⟨h5, h6⟩
      · exact .inl ⟨Nat.le_refl _, by simp⟩
      · exact .inr ⟨by simp only [List.length_cons]; omega, h6⟩
def fillA (place : Nat → Option (Nat × Nat)) (cells : List AV) : List (Nat × AV) → Option (List AV)
  | [] => some cells
  | (i, v) :: rest => match place i with
    | none => none
    | some (off, size) => if v.solid = true ∧ v.cells.length = size ∧ off + size ≤ cells.length then fillA place (setRange cells off (v.cells.map AV.copy)) rest else none
theorem fill_ok {imm : Addr → Option Value} {σ : List Nat} {place : Nat → Option (Nat × Nat)} : ∀ (parts : List (Nat × AV)) (vparts : List (Nat × Value)) (cells cells' : List AV) (c : Array Value),
    fillA place cells parts = some cells' → RepL imm σ cells c → vparts.length = parts.length →
    (∀ (j : Nat) q, parts[j]? = some q → ∃ v, vparts[j]? = some (q.1, v) ∧ Rep imm σ q.2 v) → ∃ c', Instr.fill place c vparts = some c' ∧ RepL imm σ cells' c' := by
  intro parts
  induction parts with
  | nil =>
    intro vparts cells cells' c hf hr hl hp
    have : vparts = [] := by simpa using hl
    subst this
    simp only [fillA, Option.some.injEq] at hf; subst hf
    exact ⟨c, rfl, hr⟩
  | cons q parts ih =>
    intro vparts cells cells' c hf hr hl hp
    obtain ⟨i, x⟩ := q
    cases vparts with
    | nil => simp at hl
    | cons u vparts =>
      obtain ⟨v, hv, hx⟩ := hp 0 _ rfl
      simp only [List.getElem?_cons_zero, Option.some.injEq] at hv
      subst hv
      simp only [fillA] at hf
      split at hf
      · cases hf
      · rename_i off size hpl
        split at hf
        · rename_i hc
          obtain ⟨h1, h2, h3⟩ := hc
          have hcs := (rep_cells hx h1).map_copy
          have hvs : v.cells.size = size := by rw [hcs.1]; simp; exact h2
          obtain ⟨w1, w2⟩ := foldl_write off v.cells.toList 0 c (by rw [Array.length_toList, hr.1]; omega)
          simp only [Array.length_toList, Nat.add_zero] at w1 w2
          have hrep : RepL imm σ (setRange cells off (x.cells.map AV.copy)) ((v.cells.toList.zipIdx 0).foldl (fun cs (q : Value × Nat) => cs.setIfInBounds (off + q.2) q.1) c) := by
            obtain ⟨e1, e2⟩ := setRange_spec (x.cells.map AV.copy) cells off
            refine ⟨by rw [w1, e1, hr.1], fun k y hy => ?_⟩
            rw [w2]
            rcases e2 k y hy with ⟨hk, hy'⟩ | ⟨hk, hy'⟩
            · have hk2 := (List.getElem?_eq_some_iff.1 hy').1
              rw [List.length_map] at hk2
              rw [if_pos (by rw [hvs]; omega)]
              have := hcs.2 _ _ hy'
              rwa [Array.getD_eq_getD_getElem?, ← Array.getElem?_toList, ← List.getD_eq_getElem?_getD] at this
            · rw [if_neg (by rw [hvs]; rw [List.length_map, h2] at hk; omega)]
              exact hr.2 k y hy'
          obtain ⟨c', hc1, hc2⟩ := ih vparts _ cells' _ hf hrep (by simpa using hl) (fun j q hq => by simpa using hp (j + 1) q (by simpa using hq))
          refine ⟨c', ?_, hc2⟩
          simp only [Instr.fill, hpl]
          rw [if_neg (by simp [hvs, hr.1]; omega), foldl_zipIdx]
          exact hc1
        · cases hf
def placeOf (P : Program) (fields : Array Field) (i : Nat) : Option (Nat × Nat) :=
  match fields[i]? with
  | some f => match P.info? f.type with
    | some j => some (f.offset, j.size)
    | none => none
  | none => none
def resBuild (P : Program) (s : AState) (t : TypeId) (parts : Array (Nat × Operand)) : Option Res :=
  match P.info? t, P.underlying t with
  | some i, some (.struct fields) => match i.zero with
    | some z => match fillA (placeOf P fields) (AV.ofConst z).cells (parts.toList.map fun q => (q.1, s.look q.2)) with
      | some cells => some ⟨(AV.ofConst z).solid = true ∧ fields.all (fun f => (P.info? f.type).isSome) = true, .agg cells, none, s⟩
      | none => none
    | none => none
  | some i, some (.array _ e) => match i.zero, P.info? e with
    | some z, some j => match fillA (fun k => some (k * j.size, j.size)) (AV.ofConst z).cells (parts.toList.map fun q => (q.1, s.look q.2)) with
      | some cells => some ⟨(AV.ofConst z).solid = true, .agg cells, none, s⟩
      | none => none
    | _, _ => none
  | _, _ => none
theorem run_mapM_list {P : Program} {α β : Type} (f : α → Sem β) (g : α → β) (w : World) : ∀ (l : List α), (∀ x, x ∈ l → (f x).run P w = .ok (g x) w) → (l.mapM f).run P w = .ok (l.map g) w := by
  intro l
  induction l with
  | nil => intro _; simp
  | cons x l ih =>
    intro h
    simp only [List.mapM_cons, Sem.run_bind, h x (List.mem_cons_self ..), Result.andThen_ok, ih (fun y hy => h y (List.mem_cons_of_mem _ hy)), Sem.run_pure, List.map_cons]
theorem run_mapM {P : Program} {α β : Type} (f : α → Sem β) (g : α → β) (w : World) (l : Array α) (h : ∀ x, x ∈ l.toList → (f x).run P w = .ok (g x) w) : (l.mapM f).run P w = .ok (l.map g) w := by
  rw [Array.mapM_eq_mapM_toList]
  simp only [Sem.run_map, run_mapM_list f g w l.toList h, Result.andThen_ok]
  congr 1
  apply Array.ext'
  simp
theorem parts_get {F : Fx} {g : Gh} {s : AState} {a : Act} {w : World} (h : Sim F g s a w) (parts : Array (Nat × Operand)) : ∀ (j : Nat) q, (parts.toList.map fun q => (q.1, s.look q.2))[j]? = some q →
    ∃ v, (parts.map fun (i, x) => (i, a.eval x)).toList[j]? = some (q.1, v) ∧ Rep g.imm g.σ q.2 v := fun j q hq => by
  obtain ⟨y, hy, rfl⟩ := getElem?_map_some hq
  refine ⟨a.eval y.2, ?_, look_rep h y.2⟩
  rw [Array.toList_map, List.getElem?_map, hy]; rfl
theorem ok_build (P : Program) (o : Oper) (s : AState) (t : TypeId) (parts : Array (Nat × Operand)) (ho : o.op = .build t parts) (r : Res) (hr : resBuild P s t parts = some r) (hs : r.side) : OpOk P o s r := by
  unfold resBuild at hr
  split at hr
  · rename_i i fields hi hu
    split at hr
    case h_2 => cases hr
    rename_i z hz
    split at hr
    case h_2 => cases hr
    rename_i cells hf
    cases hr
    obtain ⟨hs1, hs2⟩ := hs
    refine .same rfl fun F g a w h => ?_
    obtain ⟨c', e1, e2⟩ := fill_ok (imm := g.imm) (σ := g.σ) _ (parts.map fun (i, x) => (i, a.eval x)).toList _ _ z.cells hf (rep_cells (rep_ofConst z) hs1) (by simp) (parts_get h parts)
    have hplaces : (fields.mapM fun f => (do pure (f.offset, ← sizeOf f.type) : Sem (Nat × Nat))).run P w = .ok (fields.map fun f => (f.offset, P.cellsOf f.type)) w := by
      refine run_mapM _ _ w fields fun f hf => ?_
      rw [Array.all_eq_true'] at hs2
      have hsome := hs2 f (by simpa using hf)
      cases hfi : P.info? f.type with
      | none => rw [hfi] at hsome; simp at hsome
      | some k => simp [sizeOf, typeInfo, hfi, Program.cellsOf]
    have hpl : ∀ (q : Nat), (fields.map fun f => (f.offset, P.cellsOf f.type))[q]? = placeOf P fields q := fun q => by
      rw [Array.getElem?_map]
      unfold placeOf
      cases hq : fields[q]? with
      | none => rfl
      | some f =>
        rw [Array.all_eq_true'] at hs2
        have hsome := hs2 f (Array.mem_of_getElem? hq)
        cases hfi : P.info? f.type with
        | none => rw [hfi] at hsome; simp at hsome
        | some k => simp [Program.cellsOf, hfi]
    have hfun : (fun q => (fields.map fun f => (f.offset, P.cellsOf f.type))[q]?) = placeOf P fields := funext hpl
    refine ⟨.agg c', ?_, .agg _ _ e2.1 e2.2, fun p hp => by cases hp⟩
    simp only [execOp, ho, Instr.build, zeroValue, typeInfo, underlying, Sem.run_bind, run_program, Result.andThen_ok, hi, hz, Sem.run_pure, hu, hplaces, hfun, e1]
  · rename_i i m e hi hu
    split at hr
    case h_2 => cases hr
    rename_i z j hz hj
    split at hr
    case h_2 => cases hr
    rename_i cells hf
    cases hr
    have hs1 : (AV.ofConst z).solid = true := hs
    refine .same rfl fun F g a w h => ?_
    obtain ⟨c', e1, e2⟩ := fill_ok (imm := g.imm) (σ := g.σ) _ (parts.map fun (i, x) => (i, a.eval x)).toList _ _ z.cells hf (rep_cells (rep_ofConst z) hs1) (by simp) (parts_get h parts)
    refine ⟨.agg c', ?_, .agg _ _ e2.1 e2.2, fun p hp => by cases hp⟩
    simp only [execOp, ho, Instr.build, zeroValue, typeInfo, underlying, sizeOf, Sem.run_bind, run_program, Result.andThen_ok, hi, hz, hj, Sem.run_pure, hu, e1]
  · cases hr
def isR : List Nat → Nat → Bool
  | [], _ => true
  | x :: l, k => x == k && isR l (k + 1)
theorem isR_spec : ∀ (l : List Nat) (k : Nat), isR l k = true → l = List.range' k l.length
  | [], k, _ => rfl
  | x :: l, k, h => by
    simp only [isR, Bool.and_eq_true, beq_iff_eq] at h
    have := isR_spec l (k + 1) h.2
    rw [List.length_cons, List.range'_succ, ← this, h.1]
def resBuildSlice (P : Program) (s : AState) (t : TypeId) (n : Nat) (parts : Array (Nat × Operand)) : Option Res :=
  match P.underlying t with
  | some (.slice e) => match P.info? e with
    | some i => match i.zero with
      | some z => some ⟨okElems i.size (parts.toList.map fun q => (s.look q.2).norm.cells) ∧ (isR (parts.toList.map (·.1)) 0 = true ∧ parts.toList.length = n) ∧ (parts.toList.all fun q => (s.look q.2).solid) = true ∧ n * i.size ≤ 16777216 ∧ n ≤ 16777216,
          .osl ⟨i.size, e⟩ (parts.toList.map fun q => (s.look q.2).norm.cells), none, s⟩
      | none => none
    | none => none
  | _ => none
theorem solid_norm {x : AV} (h : x.solid = true) : x.norm.solid = true := by cases x <;> first | rfl | simp at h
theorem fill_row (size : Nat) : ∀ (vs : List Value) (k : Nat) (c : Array Value), (∀ v, v ∈ vs → v.cells.size = size) → (k + vs.length) * size ≤ c.size →
    ∃ c', Instr.fill (fun i => some (i * size, size)) c ((vs.zipIdx k).map fun q => (q.2, q.1)) = some c' ∧ c'.size = c.size ∧
      (∀ (i : Nat) v, vs[i]? = some v → ∀ j, j < size → c'.getD ((k + i) * size + j) undef = v.cells.getD j undef) ∧ (∀ m, m < k * size → c'.getD m undef = c.getD m undef) := by
  intro vs
  induction vs with
  | nil => intro k c _ _; exact ⟨c, rfl, rfl, fun i v hv => by simp at hv, fun _ _ => rfl⟩
  | cons v vs ih =>
    intro k c hsz hle
    simp only [List.length_cons] at hle
    have hv := hsz v (List.mem_cons_self ..)
    have hk : (k + 1) * size ≤ c.size := Nat.le_trans (Nat.mul_le_mul_right _ (by omega)) hle
    rw [Nat.add_mul] at hk
    obtain ⟨w1, w2⟩ := foldl_write (k * size) v.cells.toList 0 c (by rw [Array.length_toList]; omega)
    simp only [Array.length_toList, Nat.add_zero] at w1 w2
    obtain ⟨c', h1, h2, h3, h4⟩ := ih (k + 1) _ (fun u hu => hsz u (List.mem_cons_of_mem _ hu)) (by rw [w1, show k + 1 + vs.length = k + (vs.length + 1) by omega]; exact hle)
    refine ⟨c', ?_, by rw [h2, w1], fun i u hu j hj => ?_, fun m hm => ?_⟩
    · simp only [List.zipIdx_cons, List.map_cons, Instr.fill]
      rw [if_neg (by simp [hv]; omega), foldl_zipIdx]
      exact h1
    · cases i with
      | zero =>
        simp at hu; subst hu
        rw [h4 _ (by rw [Nat.add_mul k 1]; simp only [Nat.add_zero]; omega), w2, if_pos (by simp only [Nat.add_zero]; omega)]
        simp only [Nat.add_zero, Nat.add_sub_cancel_left]
        rw [List.getD_eq_getElem?_getD, Array.getElem?_toList, Array.getD_eq_getD_getElem?]
      | succ i =>
        have := h3 i u (by simpa using hu) j hj
        rwa [show k + 1 + i = k + (i + 1) by omega] at this
    · rw [h4 m (by rw [Nat.add_mul]; omega), w2, if_neg (by omega)]
theorem zip_of_range {α β : Type} (f : α → β) : ∀ (l : List (Nat × α)) (k n : Nat), l.map (·.1) = List.range' k n → l.map (fun q => (q.1, f q.2)) = ((l.map fun q => f q.2).zipIdx k).map fun q => (q.2, q.1) := by
  intro l
  induction l with
  | nil => intro k n _; rfl
  | cons q l ih =>
    intro k n h
    cases n with
    | zero => simp at h
    | succ n =>
      simp only [List.map_cons, List.range'_succ, List.cons.injEq] at h
      simp only [List.map_cons, List.zipIdx_cons, List.cons.injEq]
      exact ⟨by rw [h.1], ih (k + 1) n h.2⟩
theorem ok_buildSlice (P : Program) (o : Oper) (s : AState) (t : TypeId) (n : Nat) (parts : Array (Nat × Operand)) (ho : o.op = .buildSlice t n parts) (r : Res) (hr : resBuildSlice P s t n parts = some r) (hs : r.side) :
    OpOk P o s r := by
  unfold resBuildSlice at hr
  split at hr
  case h_2 => cases hr
  rename_i e hu
  split at hr
  case h_2 => cases hr
  rename_i i hi
  split at hr
  case h_2 => cases hr
  rename_i z hz
  cases hr
  obtain ⟨hok, hrange', hsolid, hbig⟩ := hs
  have hrange : (parts.toList.map (·.1)) = List.range n := by
    have := isR_spec _ _ hrange'.1
    rw [List.length_map, hrange'.2] at this
    rw [this, List.range_eq_range']
  intro F g a w h
  have hlen : parts.toList.length = n := by have := congrArg List.length hrange; simpa using this
  have hvals : ∀ v, v ∈ (parts.toList.map fun q => a.eval q.2) → v.cells.size = i.size := fun v hv => by
    obtain ⟨q, hq, rfl⟩ := List.mem_map.1 hv
    have h1 := rep_cells (look_rep h q.2).norm (solid_norm ((List.all_eq_true.1 hsolid) q hq))
    rw [h1.1]
    exact (hok _ (List.mem_map.2 ⟨q, hq, rfl⟩)).1
  generalize hz' : (if n * i.size = 0 then #[] else z.cells) = zc
  generalize hc0 : (Array.range (n * i.size)).map (fun k => zc[k % zc.size]!) = c0
  have hc0s : c0.size = n * i.size := by rw [← hc0]; simp
  obtain ⟨c, f1, f2, f3, _⟩ := fill_row i.size (parts.toList.map fun q => a.eval q.2) 0 c0 hvals (by rw [List.length_map, hlen, hc0s]; simp)
  have hparts : (parts.map fun (i, x) => (i, a.eval x)).toList = ((parts.toList.map fun q => a.eval q.2).zipIdx 0).map fun q => (q.2, q.1) := by
    rw [Array.toList_map]
    exact zip_of_range a.eval parts.toList 0 n (by rw [hrange, List.range_eq_range'])
  have hrun : (Instr.buildSlice t n (parts.map fun (i, x) => (i, a.eval x))).run P w = .ok (.slice (some ⟨w.heap.size, 0, none⟩) n n) (w.alloc (.cells c e (0, 0))) := by
    by_cases h0 : n * i.size = 0
    · have hzc : zc = #[] := by rw [← hz', if_pos h0]
      subst hzc
      simp only [Instr.buildSlice, underlying, Sem.run_bind, run_program, Result.andThen_ok, hu, Sem.run_pure, sizeOf, typeInfo, hi]
      rw [Sem.run_ite, if_neg (by omega), Sem.run_ite, if_pos h0]
      simp only [Sem.run_bind, Sem.run_pure, Result.andThen_ok, hc0, hparts, f1, newRow, run_newObj, World.alloc_eq]
    · have hzc : zc = z.cells := by rw [← hz', if_neg h0]
      subst hzc
      simp only [Instr.buildSlice, underlying, Sem.run_bind, run_program, Result.andThen_ok, hu, Sem.run_pure, sizeOf, typeInfo, hi]
      rw [Sem.run_ite, if_neg (by omega), Sem.run_ite, if_neg h0]
      simp only [Sem.run_bind, Sem.run_pure, Result.andThen_ok, zeroValue, typeInfo, run_program, hi, hz, hc0, hparts, f1, newRow, run_newObj, World.alloc_eq]
  obtain ⟨r1, r2, r3, r4⟩ := h.row c e (n * i.size)
  refine ⟨.slice (some ⟨w.heap.size, 0, none⟩) n n, w.alloc (.cells c e (0, 0)), _, some w.heap.size, .inl (by simp only [execOp, ho, Sem.run_bind, hrun, Result.andThen_ok, Sem.run_pure]), r1, ?_, fun base m cap hv => ?_, r2, fun p hp => by cases hp⟩
  rotate_left
  · cases hv
    refine .inr ⟨_, rfl, rfl, ⟨rfl, rfl, c.size, ?_, by rw [f2, hc0s]; exact Nat.le_refl _⟩, fun j hj1 hj2 => (Nat.lt_irrefl _ (Nat.lt_of_le_of_lt hj1 hj2)).elim⟩
    unfold rowSh
    rw [heap_alloc_new]; exact if_pos (.inl rfl)
  refine .osl ⟨i.size, e⟩ _ _ _ _ (fun k j => c.getD (k * i.size + j) undef) (by simp [← hlen]) (Nat.le_refl _) (by omega) (fun k el hel => (hok el (List.mem_of_getElem? hel)).1) (fun k el hel j y hy => ?_) (fun k el hel j y hy => ?_)
  · rw [add_new]
    have hk : k < n := by have := (List.getElem?_eq_some_iff.1 hel).1; simpa [hlen] using this
    have hj : j < i.size := by have := (List.getElem?_eq_some_iff.1 hy).1; rwa [(hok el (List.mem_of_getElem? hel)).1] at this
    refine Gh.row_imm_new _ _ _ _ _ ?_ (by rw [f2, hc0s]; exact Nat.le_refl _)
    show k * i.size + j < n * i.size
    have := Nat.mul_le_mul_right i.size (show k + 1 ≤ n by omega)
    rw [Nat.add_mul] at this; omega
  · have hj : j < i.size := by have := (List.getElem?_eq_some_iff.1 hy).1; rwa [(hok el (List.mem_of_getElem? hel)).1] at this
    obtain ⟨q, hq, rfl⟩ := getElem?_map_some hel
    have h1 := rep_cells (look_rep h q.2).norm (solid_norm ((List.all_eq_true.1 hsolid) q (List.mem_of_getElem? hq)))
    have h3 := f3 k (a.eval q.2) (by rw [List.getElem?_map, hq]; rfl) j hj
    simp only [Nat.zero_add] at h3
    rw [h3]
    exact ((h1.2 j y hy).flat (okElems_one hok hel hy).2.2).monoI r4
def resMake (P : Program) (s : AState) (t : TypeId) (l c : Operand) : Option Res :=
  match s.look l, s.look c with
  | .int _ n0, .int _ n => match P.underlying t with
    | some (.slice e) => match P.info? e with
      | some i => match i.zero with
        | some z => some ⟨n0 = 0 ∧ 0 ≤ n ∧ (i.bytes : Int) * n ≤ 281474976710656 ∧ n ≤ 9223372036854775807, .osl ⟨i.size, e⟩ [], none, s⟩
        | none => none
      | none => none
    | _ => none
  | _, _ => none
theorem ok_make (P : Program) (o : Oper) (s : AState) (t : TypeId) (l c : Operand) (ho : o.op = .makeSlice t l c) (r : Res) (hr : resMake P s t l c = some r) (hs : r.side) : OpOk P o s r := by
  unfold resMake at hr
  split at hr
  case h_2 => cases hr
  rename_i k0 n0 k n hl hc
  split at hr
  case h_2 => cases hr
  rename_i e hu
  split at hr
  case h_2 => cases hr
  rename_i i hi
  split at hr
  case h_2 => cases hr
  rename_i z hz
  cases hr
  obtain ⟨h0, hn, hby, h63⟩ := hs
  subst h0
  intro F g a w h
  have el := look_rep h l
  have ec := look_rep h c
  rw [hl] at el; rw [hc] at ec
  have vl : a.eval l = .int k0 0 := by generalize a.eval l = v at el; cases el; rfl
  have vc : a.eval c = .int k n := by generalize a.eval c = v at ec; cases ec; rfl
  have hrun := run_make (P := P) w t e i z hu hi hz k0 k 0 n (Int.le_refl _) hn hby h63
  have hsz := size_madeCells z.cells (n.toNat * i.size)
  generalize hcs : madeCells z.cells (n.toNat * i.size) = cs at hrun hsz
  obtain ⟨r1, r2, r3, r4⟩ := h.row cs e 0
  refine ⟨.slice (some ⟨w.heap.size, 0, none⟩) 0 n.toNat, w.alloc (.cells cs e (0, 0)), _, some w.heap.size, .inl ?_, r1, ?_, fun base m cap hv => ?_, r2, fun p hp => by cases hp⟩
  · simp only [execOp, ho, Sem.run_bind, vl, vc, hrun, Result.andThen_ok, Sem.run_pure]; rfl
  · exact .osl ⟨i.size, e⟩ [] _ _ _ (fun _ _ => undef) rfl (Nat.zero_le _) (Nat.zero_le _) (fun k el hel => by simp at hel) (fun k el hel => by simp at hel) (fun k el hel => by simp at hel)
  · cases hv
    refine .inr ⟨_, rfl, rfl, ⟨rfl, rfl, cs.size, ?_, by rw [hsz]; exact Nat.le_refl _⟩, fun j hj1 hj2 => ?_⟩
    · unfold rowSh
      rw [heap_alloc_new]; exact if_pos (.inl rfl)
    · exact r3 j (Nat.zero_le _) (by rw [hsz]; exact hj2)
def minI (a b : Int) : Int := if b < a then b else a
def maxI (a b : Int) : Int := if b > a then b else a
def resMM (s : AState) (mx : Bool) (x y : Operand) : Option Res :=
  match s.look x, s.look y with
  | .int k a, .int k' b => if k = k' then some ⟨True, .int k (if mx = true then maxI a b else minI a b), none, s⟩ else none
  | _, _ => none
theorem ok_mm (P : Program) (o : Oper) (s : AState) (ts : Array TypeId) (mx : Bool) (x y : Operand) (ho : o.op = .call { callee := .builtin (if mx = true then .max else .min), args := #[x, y], argTypes := ts }) (r : Res)
    (hr : resMM s mx x y = some r) (hs : r.side) : OpOk P o s r := by
  unfold resMM at hr
  split at hr
  case h_2 => cases hr
  rename_i k a k' b hx hy
  split at hr
  case isFalse => cases hr
  rename_i hk
  subst hk
  cases hr
  refine .same rfl fun F g a' w h => ?_
  have hxa := eval_int h hx
  have hyb := eval_int h hy
  have ra := rep_inR (by have := look_rep h x; rwa [hx] at this)
  have rb := rep_inR (by have := look_rep h y; rwa [hy] at this)
  refine ⟨.int k (if mx = true then maxI a b else minI a b), ?_, .int _ _ ?_, fun p hp => by cases hp⟩
  · cases mx
    · simp [execOp, ho, resolve, invoke, builtin, Builtin.min_, Builtin.min2, hxa, hyb, minI]
    · simp [execOp, ho, resolve, invoke, builtin, Builtin.max_, Builtin.max2, hxa, hyb, maxI]
  · cases mx
    · show inR k (minI a b); unfold minI; split <;> assumption
    · show inR k (maxI a b); unfold maxI; split <;> assumption
end Go.Abs
set_option linter.unusedVariables false
set_option linter.unusedSimpArgs false
namespace Go.Abs
open Go
def resIxM (P : Program) (s : AState) (t : TypeId) (x ix : Operand) : Option Res :=
  match P.underlying t, s.look x, s.look ix with
  | some (.slice el), .msl b ec n, .int _ i => match P.info? el with
    | some inf => some ⟨0 ≤ i ∧ i < n ∧ ec = inf.size, .mptr b (i.toNat * ec), none, s⟩
    | none => none
  | _, _, _ => none
theorem ok_ixM (P : Program) (o : Oper) (s : AState) (t : TypeId) (x ix : Operand) (ho : o.op = .indexAddr t x ix) (r : Res) (hr : resIxM P s t x ix = some r) (hs : r.side) : OpOk P o s r := by
  unfold resIxM at hr
  split at hr
  case h_2 => cases hr
  rename_i el b ec n k i hu hx hn
  split at hr
  case h_2 => cases hr
  rename_i inf hi
  cases hr
  obtain ⟨h0, h1, h2⟩ := hs
  refine .same rfl fun F g a w h => ?_
  have he := look_rep h x
  rw [hx] at he
  have hix := look_rep h ix
  rw [hn] at hix
  have vi : a.eval ix = .int k i := by generalize a.eval ix = v at hix; cases hix; rfl
  generalize hvx : a.eval x = vx at he
  cases he with
  | msl _ _ _ kb cap hk hc hbd =>
    refine ⟨.pointer (some ⟨kb, i.toNat * ec, none⟩), ?_, .mptr _ _ _ hk, fun p hp => by cases hp⟩
    simp [execOp, ho, Instr.indexAt, vi, hvx, asIntOf, underlying, hu, h0, h1, sizeOf, typeInfo, hi, add_mk, h2]
def resIx (P : Program) (s : AState) (t : TypeId) (x ix : Operand) : Option Res :=
  match s.look x with
  | .msl _ _ _ => resIxM P s t x ix
  | _ => resIndexAddr P s t x ix
theorem ok_ix (P : Program) (o : Oper) (s : AState) (t : TypeId) (x ix : Operand) (ho : o.op = .indexAddr t x ix) (r : Res) (hr : resIx P s t x ix = some r) (hs : r.side) : OpOk P o s r := by
  unfold resIx at hr
  split at hr
  · exact ok_ixM P o s t x ix ho r hr hs
  · exact ok_indexAddr P o s t x ix ho r hr hs
def resLenM (P : Program) (s : AState) (ts : Array TypeId) (x : Operand) : Option Res :=
  match ts[0]? with
  | some t => match P.underlying t, s.look x with
    | some (.slice _), .msl _ _ n => some ⟨True, .int .i64 n, none, s⟩
    | _, _ => none
  | none => none
theorem ok_lenM (P : Program) (o : Oper) (s : AState) (ts : Array TypeId) (x : Operand) (ho : o.op = .call { callee := .builtin .len, args := #[x], argTypes := ts }) (r : Res)
    (hr : resLenM P s ts x = some r) (hs : r.side) : OpOk P o s r := by
  unfold resLenM at hr
  split at hr
  case h_2 => cases hr
  rename_i t h0
  split at hr
  · rename_i e b ec n hu hx
    cases hr
    refine .same rfl fun F g a w h => ?_
    have he := look_rep h x
    rw [hx] at he
    generalize hvx : a.eval x = vx at he
    cases he with
    | msl _ _ _ kb cap hk hc hbd =>
      exact ⟨.int .i64 n, by simp [execOp, ho, resolve, invoke, builtin, Builtin.len_, h0, hvx, underlying, hu, goInt], .int _ _ (by simp only [inR]; omega), fun p hp => by cases hp⟩
  · cases hr
def resLn (P : Program) (s : AState) (ts : Array TypeId) (x : Operand) : Option Res :=
  match s.look x with
  | .msl _ _ _ => resLenM P s ts x
  | _ => resLen P s ts x
theorem ok_ln (P : Program) (o : Oper) (s : AState) (ts : Array TypeId) (x : Operand) (ho : o.op = .call { callee := .builtin .len, args := #[x], argTypes := ts }) (r : Res)
    (hr : resLn P s ts x = some r) (hs : r.side) : OpOk P o s r := by
  unfold resLn at hr
  split at hr
  · exact ok_lenM P o s ts x ho r hr hs
  · exact ok_len P o s ts x ho r hr hs
theorem flatten_get {size : Nat} : ∀ (l : List (List AV)) (h : ∀ e, e ∈ l → e.length = size) (j : Nat) (x : AV), l.flatten[j]? = some x → ∃ e, l[j / size]? = some e ∧ e[j % size]? = some x ∧ j < l.length * size
  | [], _, j, x, hx => by simp at hx
  | e :: l, h, j, x, hx => by
    have he := h e (List.mem_cons_self ..)
    rw [List.flatten_cons] at hx
    by_cases hj : j < size
    · rw [List.getElem?_append_left (by omega)] at hx
      refine ⟨e, by rw [Nat.div_eq_of_lt hj]; rfl, by rw [Nat.mod_eq_of_lt hj]; exact hx, ?_⟩
      rw [List.length_cons, Nat.add_mul]; omega
    · rw [List.getElem?_append_right (by omega), he] at hx
      obtain ⟨e', h1, h2, h3⟩ := flatten_get l (fun e' he' => h e' (List.mem_cons_of_mem _ he')) (j - size) x hx
      have hs : 0 < size := by
        rcases Nat.eq_zero_or_pos size with h0 | h0
        · subst h0; simp at h3
        · exact h0
      have hd : j / size = (j - size) / size + 1 := Nat.div_eq_sub_div hs (by omega)
      have hm : j % size = (j - size) % size := Nat.mod_eq_sub_mod (by omega)
      refine ⟨e', by rw [hd]; exact h1, by rw [hm]; exact h2, ?_⟩
      rw [List.length_cons, Nat.add_mul]; omega
theorem flatten_len {size : Nat} : ∀ (l : List (List AV)) (h : ∀ e, e ∈ l → e.length = size), l.flatten.length = l.length * size
  | [], _ => by simp
  | e :: l, h => by
    rw [List.flatten_cons, List.length_append, h e (List.mem_cons_self ..), flatten_len l (fun e' he' => h e' (List.mem_cons_of_mem _ he')), List.length_cons, Nat.add_mul]; omega
def resMakeM (P : Program) (s : AState) (t : TypeId) (l c : Operand) : Option Res :=
  match s.look l, s.look c with
  | .int _ n0, .int _ n => match P.underlying t with
    | some (.slice e) => match P.info? e with
      | some i => match i.zero with
        | some z => some ⟨(0 ≤ n0 ∧ n0 ≤ n ∧ 0 < i.bytes ∧ (i.bytes : Int) * n ≤ 281474976710656 ∧ n ≤ 9223372036854775807) ∧ (AV.ofConst z).solid = true ∧ (AV.ofConst z).cells.all AV.plain = true ∧ (AV.ofConst z).cells.length = i.size,
            .msl s.blocks.length i.size n0.toNat, none, s.push (List.replicate n0.toNat (AV.ofConst z).cells).flatten⟩
        | none => none
      | none => none
    | _ => none
  | _, _ => none
theorem ok_makeM (P : Program) (o : Oper) (s : AState) (t : TypeId) (l c : Operand) (ho : o.op = .makeSlice t l c) (r : Res) (hr : resMakeM P s t l c = some r) (hs : r.side) : OpOk P o s r := by
  unfold resMakeM at hr
  split at hr
  case h_2 => cases hr
  rename_i k0 n0 k n hl hc
  split at hr
  case h_2 => cases hr
  rename_i e hu
  split at hr
  case h_2 => cases hr
  rename_i i hi
  split at hr
  case h_2 => cases hr
  rename_i z hz
  cases hr
  obtain ⟨⟨h0, hle, hpos, hby, h63⟩, hso, hpl, hln⟩ := hs
  intro F g a w h
  have el := look_rep h l
  have ec := look_rep h c
  rw [hl] at el; rw [hc] at ec
  have vl : a.eval l = .int k0 n0 := by generalize a.eval l = v at el; cases el; rfl
  have vc : a.eval c = .int k n := by generalize a.eval c = v at ec; cases ec; rfl
  have hrun := run_make (P := P) w t e i z hu hi hz k0 k n0 n h0 hle hby h63
  have hn48 : n ≤ 281474976710656 := by
    have h1 : (1 : Int) ≤ i.bytes := by omega
    have h2 := Int.mul_le_mul_of_nonneg_right h1 (show 0 ≤ n by omega)
    omega
  have hrz : RepL g.imm g.σ (AV.ofConst z).cells z.cells := rep_cells (rep_ofConst z) hso
  have hzs : z.cells.size = i.size := by rw [hrz.1, hln]
  have hel : ∀ e, e ∈ List.replicate n0.toNat (AV.ofConst z).cells → e.length = i.size := fun e he => by rw [(List.mem_replicate.1 he).2]; exact hln
  have hfl := flatten_len _ hel
  rw [List.length_replicate] at hfl
  have hmono : n0.toNat * i.size ≤ n.toNat * i.size := Nat.mul_le_mul_right _ (by omega)
  have hsim := h.alloc (List.replicate n0.toNat (AV.ofConst z).cells).flatten (madeCells z.cells (n.toNat * i.size)) e (by rw [hfl, size_madeCells]; exact hmono) fun j x hx => by
    obtain ⟨e', h1, h2, h3⟩ := flatten_get _ hel j x hx
    rw [List.length_replicate] at h3
    have he' : e' = (AV.ofConst z).cells := (List.mem_replicate.1 (List.mem_of_getElem? h1)).2
    subst he'
    have hp := all_get hpl h2
    simp only [AV.plain, Bool.and_eq_true, Bool.not_eq_true'] at hp
    refine .inl ⟨hp.1, hp.2, ?_⟩
    have hg : (madeCells z.cells (n.toNat * i.size)).getD j undef = z.cells.getD (j % i.size) undef := by
      have hj : j < n.toNat * i.size := by omega
      have hm : j % i.size < z.cells.size := by rw [hzs]; exact Nat.mod_lt _ (Nat.pos_of_ne_zero fun h0 => by rw [h0] at hj; simp at hj)
      simp [madeCells, Array.getD_eq_getD_getElem?, hj, hzs]
      simp [hm]
    rw [hg]
    exact hrz.2 _ _ h2
  refine ⟨.slice (some ⟨w.heap.size, 0, none⟩) n0.toNat n.toNat, _, _, none, .inl ?_, hsim, ?_, trivial, Floating.none, fun p hp => by cases hp⟩
  · simp only [execOp, ho, Sem.run_bind, vl, vc, hrun, Result.andThen_ok, Sem.run_pure]
  · refine .msl _ _ _ w.heap.size _ ?_ (by omega) (by omega)
    show (g.σ ++ [w.heap.size])[s.blocks.length]? = _
    rw [← h.sto.len]; simp
def resMk (P : Program) (s : AState) (t : TypeId) (l c : Operand) : Option Res :=
  match l with
  | .const _ => resMake P s t l c
  | _ => resMakeM P s t l c
theorem ok_mk (P : Program) (o : Oper) (s : AState) (t : TypeId) (l c : Operand) (ho : o.op = .makeSlice t l c) (r : Res) (hr : resMk P s t l c = some r) (hs : r.side) : OpOk P o s r := by
  unfold resMk at hr
  split at hr
  · exact ok_make P o s t _ c ho r hr hs
  · exact ok_makeM P o s t l c ho r hr hs
def sliceLike : AV → Bool
  | .nsl | .sl _ | .osl _ _ | .osq _ _ | .msl _ _ _ | .e0 => true
  | _ => false
theorem sliceLike_rep {imm : Addr → Option Value} {σ : List Nat} {x : AV} {v : Value} (h : Rep imm σ x v) (hx : sliceLike x = true) : ∃ base n cap, v = .slice base n cap := by
  cases h <;> first | exact ⟨_, _, _, rfl⟩ | simp [sliceLike] at hx
def resSlice3 (P : Program) (s : AState) (t : TypeId) (x : Operand) (lo hi : Option Operand) (m : Operand) : Option Res :=
  match P.underlying t with
  | some (.slice e) => match P.info? e with
    | some _ => match bound s 0 lo, bound s 1 hi, bound s 1 (some m) with
      | some a, some b, some c => some ⟨sliceLike (s.look x) = true ∧ a = 0 ∧ b = 0 ∧ c = 0, .e0, none, s⟩
      | _, _, _ => none
    | none => none
  | _ => none
theorem bound_val {F : Fx} {g : Gh} {s : AState} {a : Act} {w : World} (h : Sim F g s a w) {y : Operand} {d n : Int} (hq : bound s d (some y) = some n) : ∃ k, a.eval y = .int k n := by
  simp only [bound] at hq
  split at hq
  · rename_i k n' hn
    cases hq
    exact ⟨k, eval_int h hn⟩
  · cases hq
theorem ok_slice3 (P : Program) (o : Oper) (s : AState) (t : TypeId) (x : Operand) (lo hi : Option Operand) (m : Operand) (ho : o.op = .slice t x lo hi (some m)) (r : Res) (hr : resSlice3 P s t x lo hi m = some r) (hs : r.side) :
    OpOk P o s r := by
  unfold resSlice3 at hr
  split at hr
  case h_2 => cases hr
  rename_i e hu
  split at hr
  case h_2 => cases hr
  rename_i i hi'
  split at hr
  case h_2 => cases hr
  rename_i p q u hp hq hm
  cases hr
  obtain ⟨hx, rfl, rfl, rfl⟩ := hs
  refine .same rfl fun F g a w h => ?_
  obtain ⟨base, n, cap, hv⟩ := sliceLike_rep (look_rep h x) hx
  cases hi with
  | none => simp [bound] at hq
  | some z =>
    obtain ⟨kz, ez⟩ := bound_val h hq
    obtain ⟨km, em⟩ := bound_val h hm
    refine ⟨.slice base 0 0, ?_, .e0 _, fun p hp => by cases hp⟩
    have hm' : base.map (fun b => b) = base := by cases base <;> rfl
    cases lo with
    | none =>
      simp [execOp, ho, Instr.sliceAt, underlying, hu, Instr.slice, hv, Instr.sliceBounds, Instr.sliceBound, asIntOf, ez, em, sizeOf, typeInfo, hi']
    | some y =>
      obtain ⟨ky, ey⟩ := bound_val h hp
      simp [execOp, ho, Instr.sliceAt, underlying, hu, Instr.slice, hv, Instr.sliceBounds, Instr.sliceBound, asIntOf, ez, em, ey, sizeOf, typeInfo, hi']
def appCells (s : AState) (d : TypeDesc) (size : Nat) (y : AV) : Option (Prop × Nat × List AV) :=
  match d, y with
  | .slice _, .msl b ec n => some (b < s.blocks.length ∧ ec = size ∧ n * ec ≤ (s.blocks.getD b []).length ∧ ((s.blocks.getD b []).take (n * ec)).all AV.inert = true, n, (s.blocks.getD b []).take (n * ec))
  | .slice _, y => match elems y with
    | some l => some (okElems size l, l.length, l.flatten)
    | none => none
  | _, _ => none
theorem appCells_ok {F : Fx} {P : Program} {g : Gh} {s : AState} {a : Act} {w : World} (h : Sim F g s a w) {d : TypeDesc} {size : Nat} {y : AV} {v : Value} (hr : Rep g.imm g.σ y v) {side : Prop} {n : Nat} {cells : List AV}
    (hc : appCells s d size y = some (side, n, cells)) (hs : side) : ∃ vals : List Value, (∀ w, (Builtin.lenOf v).run P w = .ok n w) ∧ (Builtin.firstCells size n v).run P w.drew = .ok vals.toArray w.drew ∧ vals.length = n * size ∧ cells.length = n * size ∧
      ∀ (j : Nat) x, cells[j]? = some x → x.one = true ∧ x.owns = false ∧ Rep g.imm g.σ x (vals.getD j undef) := by
  unfold appCells at hc
  split at hc
  · rename_i e b ec n0
    simp only [Option.some.injEq, Prod.mk.injEq] at hc
    obtain ⟨rfl, rfl, rfl⟩ := hc
    obtain ⟨hb, rfl, hle, hin⟩ := hs
    cases hr with
    | msl _ _ _ k cap hk hcap hbd =>
      obtain ⟨c, ty, h3, h4, h5⟩ := h.sto.blk b _ k (some_getD [] hb) hk
      refine ⟨(List.range (n0 * ec)).map fun j => c.getD j undef, fun w => by simp [Builtin.lenOf], ?_, by simp, by rw [List.length_take]; exact Nat.min_eq_left hle, fun j x hx => ?_⟩
      · refine run_firstCells_some w.drew ec n0 ⟨k, 0, none⟩ n0 cap _ (by simp) fun j u hu => ?_
        rw [List.getElem?_map] at hu
        by_cases hj : j < n0 * ec
        · rw [List.getElem?_range hj] at hu
          simp at hu
          subst hu
          rw [add_new]
          have := cell_of_block h3 j (by omega)
          simpa using this
        · rw [List.getElem?_eq_none (by simpa using hj)] at hu; simp at hu
      · have hj : j < n0 * ec := by have := (List.getElem?_eq_some_iff.1 hx).1; rw [List.length_take] at this; omega
        have h1 := all_get hin hx
        simp only [AV.inert, Bool.and_eq_true, Bool.not_eq_true'] at h1
        rw [List.getElem?_take, if_pos hj] at hx
        have h2 := (h5 j x hx).2.1
        refine ⟨h1.1.1, h1.1.2, ?_⟩
        have : ((List.range (n0 * ec)).map fun j => c.getD j undef).getD j undef = c.getD j undef := by
          rw [List.getD_eq_getElem?_getD, List.getElem?_map, List.getElem?_range hj]; rfl
        rw [this]; exact h2
  · split at hc
    · rename_i l hl
      simp only [Option.some.injEq, Prod.mk.injEq] at hc
      obtain ⟨rfl, rfl, rfl⟩ := hc
      obtain ⟨vs, hn⟩ := news_slice (P := P) (w := w) hr hl (fun e he => (hs e he).1)
      refine ⟨flatV size l.length vs, hn.len, hn.cells w.drew (fun b u hb => by simpa using h.sto.imm b u hb), flatV_length .., flatten_len _ (fun e he => (hs e he).1), fun j x hx => ?_⟩
      obtain ⟨e, h1, h2, h3⟩ := flatten_get l (fun e he => (hs e he).1) j x hx
      obtain ⟨q1, q2, q3⟩ := okElems_one hs h1 h2
      refine ⟨q1, q2, ?_⟩
      have hjl : j < (flatV size l.length vs).length := by rw [flatV_length]; exact h3
      have : (flatV size l.length vs).getD j undef = vs (j / size) (j % size) := by
        rw [List.getD_eq_getElem?_getD, List.getElem?_eq_getElem hjl]
        exact (flatV_get (List.getElem?_eq_getElem hjl)).2
      rw [this]
      exact (hn.rep _ _ h1 _ _ h2).monoS (fun _ _ h => by simp at h)
    · cases hc
  · cases hc
def resAppE (P : Program) (s : AState) (ts : Array TypeId) (x y : Operand) : Option Res :=
  match ts[0]?, ts[1]? with
  | some t, some t2 => match P.underlying t, P.underlying t2 with
    | some (.slice e), some d => match P.info? e with
      | some i => match i.zero, appCells s d i.size (s.look y), s.look x with
        | some z, some (side, n, cells), .e0 => some ⟨side ∧ 0 < n ∧ z.cells.size = i.size ∧ Fits i.bytes n, .msl s.blocks.length i.size n, none, s.push cells⟩
        | _, _, _ => none
      | none => none
    | _, _ => none
  | _, _ => none
theorem ok_appE (P : Program) (o : Oper) (s : AState) (ts : Array TypeId) (x y : Operand) (ho : o.op = .call { callee := .builtin .append, args := #[x, y], argTypes := ts }) (r : Res)
    (hr : resAppE P s ts x y = some r) (hs : r.side) : OpOk P o s r := by
  unfold resAppE at hr
  split at hr
  case h_2 => cases hr
  rename_i t t2 h0 h1
  split at hr
  case h_2 => cases hr
  rename_i e d ht hu2
  split at hr
  case h_2 => cases hr
  rename_i i hi
  split at hr
  case h_2 => cases hr
  rename_i z side n cells hz hc hx
  cases hr
  obtain ⟨hsd, hn, hzs, hby, hfit⟩ := hs
  have hd : ∀ k, d ≠ .int k := fun k hk => by subst hk; simp [appCells] at hc
  intro F g a w h
  have he := look_rep h x
  rw [hx] at he
  obtain ⟨vals, g1, g2, g3, g4, g5⟩ := appCells_ok (P := P) h (look_rep h y) hc hsd
  generalize hvx : a.eval x = vx at he
  cases he with
  | e0 base =>
    have h63 : ((0 + n : Nat) : Int) ≤ 9223372036854775807 := by
      have : n ≤ n * i.bytes := Nat.le_mul_of_pos_right _ hby
      omega
    have hrun := run_append_grow' (P := P) (w := w) (ty := o.type) h0 h1 hu2 hd ht hi hz base 0 0 n (a.eval y) g1 [] vals (by cases base <;> simp [Builtin.firstCells, loadCells, loadCellsFrom]) g2 (by omega) h63 (by simpa using hfit)
    have hge := grownCap_ge w (0 + n) 0 e
    generalize grownCap w (0 + n) 0 e = cap' at hrun hge
    simp only [List.append_nil, Nat.zero_add] at hrun
    generalize hcs : #[] ++ vals.toArray ++ Builtin.zeroCells z.cells (cap' - n) = c at hrun
    have hsim := h.drew.alloc cells c e (by rw [← hcs]; simp [g3, g4]) fun j x hx => by
      obtain ⟨p1, p2, p3⟩ := g5 j x hx
      refine .inl ⟨p1, p2, ?_⟩
      have hj : j < vals.length := by have := (List.getElem?_eq_some_iff.1 hx).1; omega
      have : c.getD j undef = vals.getD j undef := by
        rw [← hcs, Array.getD_eq_getD_getElem?, Array.getElem?_append_left (by simpa using hj)]
        simp [List.getD_eq_getElem?_getD]
      rw [this]; exact p3
    refine ⟨.slice (some ⟨w.heap.size, 0, none⟩) n cap', _, _, none, .inl ?_, hsim, ?_, trivial, Floating.none, fun p hp => by cases hp⟩
    · simp [execOp, ho, resolve, invoke, builtin, hvx, hrun]
    · refine .msl _ _ _ w.heap.size cap' ?_ (by omega) ?_
      · show (g.σ ++ [w.drew.heap.size])[s.blocks.length]? = _
        rw [← h.sto.len]; simp
      · have : n ≤ n * i.bytes := Nat.le_mul_of_pos_right _ hby
        omega
def oldElemsQ (size : EC) : AV → Option (List (List AV))
  | .osq ec l => if ec = size then some l else none
  | _ => none
def resAppQ (P : Program) (s : AState) (ts : Array TypeId) (x y : Operand) : Option Res :=
  match ts[0]?, ts[1]? with
  | some t, some t2 => match P.underlying t, P.underlying t2 with
    | some (.slice e), some d => match P.info? e with
      | some i => match i.zero, appElems d (s.look y), oldElemsQ ⟨i.size, e⟩ (s.takeV x) with
        | some z, some l2, some l1 => some ⟨okElems i.size l2 ∧ z.cells.size = i.size ∧ Fits i.bytes (l1.length + l2.length), .osq ⟨i.size, e⟩ (l1 ++ l2), none, s.takeS x⟩
        | _, _, _ => none
      | none => none
    | _, _ => none
  | _, _ => none
theorem append_coreQ {F : Fx} {P : Program} {g : Gh} {s : AState} {a : Act} {w : World} (h : Sim F g s a w) {ec0 : EC} {l1 l2 : List (List AV)} {v x : Value} {bo : Option Nat}
    (hr : Rep g.imm g.σ (.osq ec0 l1) v) (ho : OwnsBy g.imm w bo (.osq ec0 l1) v) (hf : Floating F g w bo) {vs2 : Nat → Nat → Value} (hn : News P g w ec0.size l2 x vs2) (hok : okElems ec0.size l2)
    {argTypes : Array TypeId} {ty t t2 e : TypeId} {d2 : TypeDesc} {i : TypeInfo} {z : Value} (h0 : argTypes[0]? = some t) (h1 : argTypes[1]? = some t2)
    (hu2 : P.underlying t2 = some d2) (hd2 : ∀ k, d2 ≠ .int k) (ht : P.underlying t = some (.slice e)) (hi : P.info? e = some i) (hz : i.zero = some z) (hsz : i.size = ec0.size) (hty : ec0.ty = e) (hzs : z.cells.size = ec0.size)
    (h63 : ((l1.length + l2.length : Nat) : Int) ≤ 9223372036854775807) (hfit : (l1.length + l2.length) * i.bytes ≤ 140737488355328) (hbd : l1.length + l2.length ≤ 281474976710656) :
    ∃ v' w' g' bo', (Builtin.append_ argTypes ty #[v, x]).run P w = .ok v' w' ∧ Sim F g' s a w' ∧ Rep g'.imm g'.σ (.osq ec0 (l1 ++ l2)) v' ∧ OwnsBy g'.imm w' bo' (.osq ec0 (l1 ++ l2)) v' ∧ Floating F g' w' bo' := by
  obtain ⟨size, ty0⟩ := ec0
  simp only at hsz hty hn hok hzs ⊢
  subst hsz; subst hty
  have hl1 : ∀ e, e ∈ l1 → e.length = i.size := by
    intro e he
    cases hr with
    | osq0 => simp at he
    | osq ec l a n cap vs hn' hc hbd' he' hi' hr' => obtain ⟨k, hk⟩ := List.getElem?_of_mem he; exact he' k e hk
  obtain ⟨vs1, hn1⟩ := news_slice (P := P) (w := w) hr rfl hl1
  have hl2 : ∀ e, e ∈ l2 → e.length = i.size := fun e he => (hok e he).1
  have grow : ∀ base cap, v = .slice base l1.length cap → cap < l1.length + l2.length →
      ∃ v' w' g' bo', (Builtin.append_ argTypes ty #[v, x]).run P w = .ok v' w' ∧ Sim F g' s a w' ∧ Rep g'.imm g'.σ (.osq ⟨i.size, ty0⟩ (l1 ++ l2)) v' ∧ OwnsBy g'.imm w' bo' (.osq ⟨i.size, ty0⟩ (l1 ++ l2)) v' ∧ Floating F g' w' bo' := by
    intro base cap hv hcap
    have hdrew : ∀ b u, g.imm b = some u → w.drew.cell? b = some u := fun b u hb => by simpa using h.sto.imm b u hb
    have hfo := hn1.cells w.drew hdrew
    rw [hv] at hfo
    have hrun := run_append_grow' (P := P) (w := w) (ty := ty) h0 h1 hu2 hd2 ht hi hz base l1.length cap l2.length x hn.len (flatV i.size l1.length vs1) (flatV i.size l2.length vs2)
      hfo (hn.cells w.drew hdrew) hcap h63 hfit
    rw [← hv] at hrun
    have hge := grownCap_ge w (l1.length + l2.length) cap ty0
    generalize grownCap w (l1.length + l2.length) cap ty0 = cap' at hrun hge
    generalize hc : (flatV i.size l1.length vs1).toArray ++ (flatV i.size l2.length vs2).toArray ++ Builtin.zeroCells z.cells (cap' - (l1.length + l2.length)) = c at hrun
    have hcs : c.size = cap' * i.size := by
      rw [← hc]
      simp only [Array.size_append, List.size_toArray, flatV_length, size_zeroCells, hzs, ← Nat.add_mul]
      congr 1; omega
    obtain ⟨r1, r2, r3, r4⟩ := h.drew.row c ty0 ((l1.length + l2.length) * i.size)
    have hm : (l1.length + l2.length) * i.size ≤ c.size := by rw [hcs]; exact Nat.mul_le_mul_right _ hge
    refine ⟨_, _, _, _, hrun, r1, ?_, ?_, r2⟩
    · refine .osq ⟨i.size, ty0⟩ _ _ _ _ (fun k j => c.getD (k * i.size + j) undef) (by simp) hge hbd (fun k el hel => ?_) (fun k el hel j y hy => ?_) (fun k el hel j y hy => ?_)
      · rcases append_split hel with ⟨_, hk⟩ | ⟨_, _, hk⟩
        · exact hl1 el (List.mem_of_getElem? hk)
        · exact hl2 el (List.mem_of_getElem? hk)
      · rw [add_new]
        refine Gh.row_imm_new _ _ _ _ _ ?_ hm
        show k * i.size + j < (l1.length + l2.length) * i.size
        have hk : k < (l1 ++ l2).length := (List.getElem?_eq_some_iff.1 hel).1
        have hj : j < i.size := by
          have := (List.getElem?_eq_some_iff.1 hy).1
          rcases append_split hel with ⟨_, hk⟩ | ⟨_, _, hk⟩
          · rwa [hl1 el (List.mem_of_getElem? hk)] at this
          · rwa [hl2 el (List.mem_of_getElem? hk)] at this
        rw [List.length_append] at hk
        have := Nat.mul_le_mul_right i.size (show k + 1 ≤ l1.length + l2.length by omega)
        rw [Nat.add_mul] at this; omega
      · have hj := (List.getElem?_eq_some_iff.1 hy).1
        rcases append_split hel with ⟨hlt, hk⟩ | ⟨q, rfl, hk⟩
        · rw [hl1 el (List.mem_of_getElem? hk)] at hj
          have hg := flatV_at vs1 hlt hj
          have : c.getD (k * i.size + j) undef = vs1 k j := by
            rw [← hc, Array.getD_eq_getD_getElem?, Array.append_assoc, Array.getElem?_append_left]
            · rw [List.getElem?_toArray, hg]; rfl
            · rw [List.size_toArray]; exact (List.getElem?_eq_some_iff.1 hg).1
          rw [this]
          exact (hn1.rep k el hk j y hy).monoI r4
        · rw [hl2 el (List.mem_of_getElem? hk)] at hj
          have hq : q < l2.length := (List.getElem?_eq_some_iff.1 hk).1
          have hg := flatV_at vs2 hq hj
          have : c.getD ((l1.length + q) * i.size + j) undef = vs2 q j := by
            rw [← hc, Array.getD_eq_getD_getElem?, Array.append_assoc, Array.getElem?_append_right (by rw [List.size_toArray, flatV_length, Nat.add_mul]; omega), List.size_toArray, flatV_length,
              Array.getElem?_append_left]
            · rw [List.getElem?_toArray, show (l1.length + q) * i.size + j - l1.length * i.size = q * i.size + j by rw [Nat.add_mul]; omega, hg]; rfl
            · rw [List.size_toArray, show (l1.length + q) * i.size + j - l1.length * i.size = q * i.size + j by rw [Nat.add_mul]; omega]; exact (List.getElem?_eq_some_iff.1 hg).1
          rw [this]
          exact (hn.rep q el hk j y hy).monoI r4
    · intro base' n' cap'' hv'
      simp only [Value.slice.injEq] at hv'
      obtain ⟨rfl, rfl, rfl⟩ := hv'
      exact .inr ⟨_, rfl, rfl, by rw [← hcs]; exact r3⟩
  cases hr with
  | osq0 =>
    by_cases hl : l2 = []
    · subst hl
      refine ⟨.slice none 0 0, w, g, none, ?_, h, .osq0 _, fun base n cap hv => ?_, Floating.none⟩
      · have h3 := hn.cells w h.sto.imm
        simp only [List.length_nil] at h3
        exact run_append_room_nil h0 h1 hu2 hd2 ht hi x (hn.len w) (by simpa [flatV] using h3)
      · cases hv; exact .inl rfl
    · exact grow none 0 rfl (by simpa using List.length_pos_iff.2 hl)
  | osq ec l b n cap vs hnn hcap hbd1 hel himm hrep =>
    subst hnn
    by_cases hroom : l1.length + l2.length ≤ cap
    · by_cases hl : l2 = []
      · subst hl
        refine ⟨.slice (some b) l1.length cap, w, g, bo, ?_, h, by simpa using Rep.osq ⟨i.size, ty0⟩ l1 b l1.length cap vs rfl hcap hbd1 hel himm hrep, by simpa using ho, hf⟩
        have h3 := hn.cells w h.sto.imm
        have := run_append_room' (P := P) (w := w) (w' := w) (ty := ty) h0 h1 hu2 hd2 ht hi b l1.length cap 0 x (hn.len w) [] (by simpa [flatV] using h3) (by simpa using hroom) rfl
        simpa using this
      · have hpos := List.length_pos_iff.2 hl
        rcases ho _ _ _ rfl with hlc | ⟨b', hb', hbo, hsp⟩
        · cases hlc
        · cases hb'
          have h1n : ∀ u, u ∈ flatV i.size l2.length vs2 → u.oneCell' = true := fun u hu => by
            obtain ⟨j, hj0⟩ := List.getElem?_of_mem hu
            obtain ⟨hj, rfl⟩ := flatV_get hj0
            obtain ⟨p1, p2, p3⟩ := idx_split hj
            have he := List.getElem?_eq_getElem p1
            have hy := List.getElem?_eq_getElem (show j % i.size < l2[j / i.size].length by rw [hl2 _ (List.getElem_mem p1)]; exact p2)
            exact (hn.rep _ _ he _ _ hy).oneCell (okElems_one hok he hy).1
          have hfits : l1.length * i.size + (flatV i.size l2.length vs2).length ≤ cap * i.size := by
            rw [flatV_length, ← Nat.add_mul]; exact Nat.mul_le_mul_right _ hroom
          obtain ⟨g', w', e1, e2, e3, e4, e5, e6, e7, e8, e9⟩ := fillList (P := P) b (cap * i.size) (flatV i.size l2.length vs2) (l1.length * i.size) g w h (by rw [← hbo]; exact hf) hsp hfits h1n
          have hst := e1 (b.add (l1.length * i.size)) 0 rfl (fun j => by rw [add_add]; simp)
          refine ⟨.slice (some b) (l1.length + l2.length) cap, w', g', bo, ?_, e2, ?_, ?_, by rw [hbo]; exact e7⟩
          · exact run_append_room' h0 h1 hu2 hd2 ht hi b l1.length cap l2.length x (hn.len w) _ (hn.cells w h.sto.imm) hroom hst
          · refine .osq ⟨i.size, ty0⟩ _ _ _ _ (fun k j => if k < l1.length then vs k j else vs2 (k - l1.length) j) (by simp) hroom hbd (fun k el hk => ?_) (fun k el hk j y hy => ?_) (fun k el hk j y hy => ?_)
            · rcases append_split hk with ⟨_, hk⟩ | ⟨_, _, hk⟩
              · exact hl1 el (List.mem_of_getElem? hk)
              · exact hl2 el (List.mem_of_getElem? hk)
            · rcases append_split hk with ⟨hlt, hk1⟩ | ⟨q, rfl, hk1⟩
              · simp only [if_pos hlt]; exact e5 _ _ (himm k el hk1 j y hy)
              · have hj := (List.getElem?_eq_some_iff.1 hy).1
                rw [hl2 el (List.mem_of_getElem? hk1)] at hj
                have hg := flatV_at vs2 (List.getElem?_eq_some_iff.1 hk1).1 hj
                have := e6 _ _ hg
                rw [if_neg (by omega), show l1.length + q - l1.length = q by omega, Nat.add_mul, Nat.add_assoc]; exact this
            · rcases append_split hk with ⟨hlt, hk1⟩ | ⟨q, rfl, hk1⟩
              · simp only [if_pos hlt]; exact (hrep k el hk1 j y hy).monoI e5
              · rw [if_neg (by omega), show l1.length + q - l1.length = q by omega]
                exact (hn.rep q el hk1 j y hy).monoI e5
          · intro base n cap' hv
            simp only [Value.slice.injEq] at hv
            obtain ⟨rfl, rfl, rfl⟩ := hv
            refine .inr ⟨b, rfl, hbo, ?_⟩
            rw [flatV_length, ← Nat.add_mul] at e8; exact e8
    · exact grow (some b) cap rfl (by omega)
theorem ok_appQ (P : Program) (o : Oper) (s : AState) (ts : Array TypeId) (x y : Operand) (ho : o.op = .call { callee := .builtin .append, args := #[x, y], argTypes := ts }) (r : Res)
    (hr : resAppQ P s ts x y = some r) (hs : r.side) : OpOk P o s r := by
  unfold resAppQ at hr
  split at hr
  case h_2 => cases hr
  rename_i t t2 h0 h1
  split at hr
  case h_2 => cases hr
  rename_i e d ht hu2
  split at hr
  case h_2 => cases hr
  rename_i i hi
  split at hr
  case h_2 => cases hr
  rename_i z l2 l1 hz hl2 hl1
  cases hr
  obtain ⟨hok, hzs, hby, hfit⟩ := hs
  intro F g a w h
  obtain ⟨g1, bo, s1, s2, s3, s4, s5, s6⟩ := take_ok h x
  have hd : ∀ k, d ≠ .int k := fun k hk => by rw [hk] at hl2; simp [appElems] at hl2
  have h63 : ((l1.length + l2.length : Nat) : Int) ≤ 9223372036854775807 := by
    have : l1.length + l2.length ≤ (l1.length + l2.length) * i.bytes := Nat.le_mul_of_pos_right _ hby
    omega
  have hbd : l1.length + l2.length ≤ 281474976710656 := by
    have : l1.length + l2.length ≤ (l1.length + l2.length) * i.bytes := Nat.le_mul_of_pos_right _ hby
    omega
  have hrep : Rep g1.imm g1.σ (.osq ⟨i.size, e⟩ l1) (a.eval x) ∧ OwnsBy g1.imm w bo (.osq ⟨i.size, e⟩ l1) (a.eval x) := by
    cases hv : s.takeV x <;> rw [hv] at hl1 s2 s3 <;> simp only [oldElemsQ, reduceCtorEq] at hl1
    split at hl1
    · rename_i hec; cases hl1; subst hec; exact ⟨s2, s3⟩
    · cases hl1
  have hy : Rep g1.imm g1.σ (s.look y) (a.eval y) := (look_rep h y).mono (fun _ _ h => by rw [s5]; exact h) (fun _ _ h => by rw [s6]; exact h)
  have hnews : ∃ vs, News P g1 w i.size l2 (a.eval y) vs := by
    cases d <;> simp only [appElems, reduceCtorEq] at hl2
    · split at hl2
      · rename_i b hb
        cases hl2
        obtain ⟨bs, hbs, hbl, _⟩ := eval_str h hb
        rw [hbs]
        have hsz1 : i.size = 1 ∨ byteElems b = [] := by
          cases b with
          | nil => exact .inr rfl
          | cons c b => exact .inl ((hok _ (List.mem_cons_self ..)).1).symm
        rcases hsz1 with hsz1 | hnil
        · rw [hsz1]; exact ⟨_, news_str hbl⟩
        · have hb0 : b = [] := by simpa [byteElems] using hnil
          subst hb0
          refine ⟨fun _ _ => undef, fun w => ?_, fun w' _ => ?_, fun i e he => by simp [byteElems] at he⟩
          · have : bs.size = 0 := by rw [size_length, hbl]; rfl
            simp [Builtin.lenOf, this, byteElems]
          · simp only [Builtin.firstCells, byteElems, List.map_nil, List.length_nil, Sem.run_pure]
            congr 1
            apply Array.ext'
            rw [Array.toList_map, Lib.extract_data]
            simp [flatV]
      · cases hl2
    · exact news_slice hy hl2 (fun e he => (hok e he).1)
  obtain ⟨vs, hn⟩ := hnews
  obtain ⟨v', w', g', bo', e1, e2, e3, e4, e5⟩ := append_coreQ s1 hrep.1 hrep.2 s4 hn hok (ty := o.type) h0 h1 hu2 hd ht hi hz rfl rfl hzs h63 hfit hbd
  refine ⟨v', w', g', bo', .inl ?_, e2, e3, e4, e5, fun p hp => by cases hp⟩
  simp [execOp, ho, resolve, invoke, builtin, e1]
def resApp (P : Program) (s : AState) (ts : Array TypeId) (x y : Operand) : Option Res :=
  match s.takeV x with
  | .e0 => resAppE P s ts x y
  | .osq _ _ => resAppQ P s ts x y
  | _ => resAppend P s ts x y
theorem ok_app (P : Program) (o : Oper) (s : AState) (ts : Array TypeId) (x y : Operand) (ho : o.op = .call { callee := .builtin .append, args := #[x, y], argTypes := ts }) (r : Res)
    (hr : resApp P s ts x y = some r) (hs : r.side) : OpOk P o s r := by
  unfold resApp at hr
  split at hr
  · exact ok_appE P o s ts x y ho r hr hs
  · exact ok_appQ P o s ts x y ho r hr hs
  · exact ok_append P o s ts x y ho r hr hs
def resTail (P : Program) (s : AState) (t : TypeId) (x lo : Operand) : Option Res :=
  match P.underlying t, s.takeV x, s.look lo with
  | some (.slice e), .osq ec l, .int _ n => match P.info? e with
    | some i => some ⟨0 ≤ n ∧ n ≤ l.length ∧ i.size = ec.size, .osq ec (l.drop n.toNat), none, s.takeS x⟩
    | none => none
  | _, _, _ => none
theorem ok_tail (P : Program) (o : Oper) (s : AState) (t : TypeId) (x lo : Operand) (ho : o.op = .slice t x (some lo) none none) (r : Res) (hr : resTail P s t x lo = some r) (hs : r.side) : OpOk P o s r := by
  unfold resTail at hr
  split at hr
  case h_2 => cases hr
  rename_i e ec l k n hu hx hn
  split at hr
  case h_2 => cases hr
  rename_i i hi
  cases hr
  obtain ⟨h0, h1, h2⟩ := hs
  intro F g a w h
  obtain ⟨g1, bo, s1, s2, s3, s4, s5, s6⟩ := take_ok h x
  have vl := eval_int h hn
  rw [hx] at s2 s3
  generalize hvx : a.eval x = vx at s2 s3
  cases s2 with
  | osq0 _ =>
    have hn0 : n = 0 := by simp at h1; omega
    subst hn0
    refine ⟨.slice none 0 0, w, g1, none, .inl ?_, s1, by simpa using Rep.osq0 ec, fun base n cap hv => ?_, Floating.none, fun p hp => by cases hp⟩
    · simp [execOp, ho, Instr.sliceAt, underlying, hu, Instr.slice, hvx, Instr.sliceBounds, Instr.sliceBound, asIntOf, vl, sizeOf, typeInfo, hi]
    · cases hv; exact .inl rfl
  | osq _ _ b m cap vs hm hc hbd he hi' hr' =>
    subst hm
    have hnn : n.toNat ≤ l.length := by omega
    refine ⟨.slice (some (if cap = n.toNat then b else b.add (n.toNat * i.size))) (l.length - n.toNat) (cap - n.toNat), w, g1, bo, .inl ?_, s1, ?_, fun base m' cap' hv => ?_, s4, fun p hp => by cases hp⟩
    · have e1 : n ≤ (l.length : Int) := h1
      by_cases hcn : cap = n.toNat
      · simp [execOp, ho, Instr.sliceAt, underlying, hu, Instr.slice, hvx, Instr.sliceBounds, Instr.sliceBound, asIntOf, vl, sizeOf, typeInfo, hi, h0, e1, hcn]
      · simp [execOp, ho, Instr.sliceAt, underlying, hu, Instr.slice, hvx, Instr.sliceBounds, Instr.sliceBound, asIntOf, vl, sizeOf, typeInfo, hi, h0, e1, hcn]
    · refine .osq ec _ _ _ _ (fun q j => vs (n.toNat + q) j) (by simp) (by omega) (by omega) (fun q el hel => ?_) (fun q el hel j y hy => ?_) (fun q el hel j y hy => ?_)
      · rw [List.getElem?_drop] at hel; exact he _ _ hel
      · rw [List.getElem?_drop] at hel
        have h3 := hi' _ _ hel j y hy
        have h4 : n.toNat + q < l.length := (List.getElem?_eq_some_iff.1 hel).1
        rw [if_neg (by omega), add_add, h2, ← Nat.add_assoc, ← Nat.add_mul]; exact h3
      · rw [List.getElem?_drop] at hel; exact hr' _ _ hel j y hy
    · cases hv
      rcases s3 _ _ _ rfl with h3 | ⟨b', h3, h4, h5⟩
      · cases h3
      · cases h3
        refine .inr ⟨_, rfl, ?_, fun j hj1 hj2 => ?_⟩
        · rw [h4]; split
          · rfl
          · rw [add_block]
        · by_cases hcn : cap = n.toNat
          · rw [hcn] at hj2; simp at hj2
          · rw [if_neg hcn, add_add, h2]
            rw [Nat.sub_mul] at hj1 hj2
            have h6 : n.toNat * ec.size ≤ l.length * ec.size := Nat.mul_le_mul_right _ hnn
            exact h5 _ (by omega) (by omega)
def resBinN (P : Program) (s : AState) (op : BinOp) (t : TypeId) (x : Operand) : Option Res :=
  match P.underlying t, s.look x with
  | some (.slice _), .msl b ec n => (match op with
    | .eql => some ⟨True, .bool false, none, s⟩
    | .neq => some ⟨True, .bool true, none, s⟩
    | _ => none)
  | some (.slice _), v => match elems v with
    | some l => (match op with
      | .eql => some ⟨l ≠ [], .bool false, none, s⟩
      | .neq => some ⟨l ≠ [], .bool true, none, s⟩
      | _ => none)
    | none => none
  | _, _ => none
theorem run_nilcmp {P : Program} {op : BinOp} {t e : TypeId} {z : AV} (hu : P.underlying t = some (.slice e)) (hz : (op = .eql ∧ z = .bool false) ∨ (op = .neq ∧ z = .bool true)) (b : Addr) (n cap : Nat) (p q : Operand) (w : World) :
    ∃ u, (do eqGuard op t p q (.slice (some b) n cap) (.slice none 0 0); binOp op t (.slice (some b) n cap) (.slice none 0 0) : Sem Value).run P w = .ok u w ∧ ∀ imm σ, Rep imm σ z u := by
  have hg : (eqGuard op t p q (.slice (some b) n cap) (.slice none 0 0)).run P w = .ok () w := by unfold eqGuard; split <;> simp
  have he : (Op.equal t (.slice (some b) n cap) (.slice none 0 0)).run P w = .ok false w := by
    show (Op.equalIn 10000 t (.slice (some b) n cap) (.slice none 0 0)).run P w = _
    unfold Op.equalIn
    simp [underlying, hu]
  rcases hz with ⟨rfl, rfl⟩ | ⟨rfl, rfl⟩
  · exact ⟨.bool false, by simp only [Sem.run_bind, hg, Result.andThen_ok, binOp]; simp [he], fun _ _ => .bool _⟩
  · exact ⟨.bool true, by simp only [Sem.run_bind, hg, Result.andThen_ok, binOp]; simp [he], fun _ _ => .bool _⟩
theorem ok_binN (P : Program) (o : Oper) (s : AState) (op : BinOp) (t t' : TypeId) (x y : Operand) (ho : o.op = .binOp op t x y t') (hy : s.look y = .nsl) (r : Res) (hr : resBinN P s op t x = some r) (hs : r.side) : OpOk P o s r := by
  have key : ∀ (e : TypeId) (z : AV), P.underlying t = some (.slice e) → ((op = .eql ∧ z = .bool false) ∨ (op = .neq ∧ z = .bool true)) → ∀ F g a w, Sim F g s a w → (∃ b n cap, a.eval x = .slice (some b) n cap) →
      ∃ v, (execOp a.eval o).run P w = .ok (.value v) w ∧ Rep g.imm g.σ z v ∧ (∀ p, (none : Option Place) = some p → LoanOk g w a.tmps v p) := fun e z hu hz F g a w h ⟨b, n, cap, hv⟩ => by
    have h2 := look_rep h y
    rw [hy] at h2
    have hvy : a.eval y = .slice none 0 0 := by generalize a.eval y = v at h2; cases h2; rfl
    obtain ⟨u, h3, h4⟩ := run_nilcmp (P := P) hu hz b n cap x y w
    refine ⟨u, ?_, h4 _ _, fun p hp => by cases hp⟩
    simp only [execOp, ho, Sem.run_bind, hv, hvy] at h3 ⊢
    simp only [h3, Result.andThen_ok, Sem.run_pure]
  unfold resBinN at hr
  split at hr
  · rename_i e b ec n hu hx
    have hb : ∀ F g a w, Sim F g s a w → ∃ b n cap, a.eval x = .slice (some b) n cap := fun F g a w h => by
      have := look_rep h x
      rw [hx] at this
      generalize a.eval x = v at this
      cases this
      exact ⟨_, _, _, rfl⟩
    split at hr
    · cases hr; exact .same rfl fun F g a w h => key e _ hu (.inl ⟨rfl, rfl⟩) F g a w h (hb F g a w h)
    · cases hr; exact .same rfl fun F g a w h => key e _ hu (.inr ⟨rfl, rfl⟩) F g a w h (hb F g a w h)
    · cases hr
  · rename_i e hu _
    split at hr
    case h_2 => cases hr
    rename_i l hl
    have hb : l ≠ [] → ∀ F g a w, Sim F g s a w → ∃ b n cap, a.eval x = .slice (some b) n cap := fun hne F g a w h => by
      obtain ⟨base, cap, hv, _, _, hel⟩ := rep_elems (look_rep h x) hl
      cases l with
      | nil => exact (hne rfl).elim
      | cons e l =>
        obtain ⟨b, _, _, hb, _⟩ := hel 0 e rfl
        subst hb
        exact ⟨b, _, _, hv⟩
    split at hr
    · cases hr; exact .same rfl fun F g a w h => key e _ hu (.inl ⟨rfl, rfl⟩) F g a w h (hb hs F g a w h)
    · cases hr; exact .same rfl fun F g a w h => key e _ hu (.inr ⟨rfl, rfl⟩) F g a w h (hb hs F g a w h)
    · cases hr
  · cases hr
def resBn (P : Program) (s : AState) (op : BinOp) (t : TypeId) (x y : Operand) : Option Res :=
  match s.look y with
  | .nsl => resBinN P s op t x
  | _ => resBin P s op t x y
theorem ok_bn (P : Program) (o : Oper) (s : AState) (op : BinOp) (t t' : TypeId) (x y : Operand) (ho : o.op = .binOp op t x y t') (r : Res) (hr : resBn P s op t x y = some r) (hs : r.side) : OpOk P o s r := by
  unfold resBn at hr
  split at hr
  · rename_i hy; exact ok_binN P o s op t t' x y ho hy r hr hs
  · exact ok_bin P o s op t t' x y ho r hr hs
def resEmp (P : Program) (s : AState) (t : TypeId) : Option Res :=
  match P.underlying t with
  | some (.slice e) => match P.info? e with
    | some i => match i.zero with
      | some _ => some ⟨True, .e0, none, s⟩
      | none => none
    | none => none
  | _ => none
theorem ok_emp (P : Program) (o : Oper) (s : AState) (t : TypeId) (ho : o.op = .buildSlice t 0 #[]) (r : Res) (hr : resEmp P s t = some r) (hs : r.side) : OpOk P o s r := by
  unfold resEmp at hr
  split at hr
  case h_2 => cases hr
  rename_i e hu
  split at hr
  case h_2 => cases hr
  rename_i i hi
  split at hr
  case h_2 => cases hr
  rename_i z hz
  cases hr
  intro F g a w h
  have hrun : (Instr.buildSlice t 0 #[]).run P w = .ok (.slice (some ⟨w.heap.size, 0, none⟩) 0 0) (w.alloc (.cells #[] e (0, 0))) := by
    simp only [Instr.buildSlice, underlying, Sem.run_bind, run_program, Result.andThen_ok, hu, Sem.run_pure, sizeOf, typeInfo, hi]
    rw [Sem.run_ite, if_neg (by omega), Sem.run_ite, if_pos (by simp)]
    have hr0 : (Array.map (fun x => (default : Value)) (Array.range 0)) = #[] := by apply Array.ext'; simp
    simp [Instr.fill, newRow, run_newObj, World.alloc_eq, hr0]
  obtain ⟨r1, _⟩ := h.row #[] e 0
  exact ⟨.slice (some ⟨w.heap.size, 0, none⟩) 0 0, _, _, none, .inl (by simp only [execOp, ho, Sem.run_bind, Array.map_empty, hrun, Result.andThen_ok, Sem.run_pure]), r1, .e0 _, trivial, Floating.none, fun p hp => by cases hp⟩
def partV (P : Program) (t : TypeId) (cs : List AV) (off : Nat) : Option (Prop × AV) :=
  match isAggB P t, P.underlying t with
  | some false, _ => match (cs.drop off).take (P.cellsOf t) with
    | [x] => some (x.owns = false, x)
    | _ => none
  | some true, some (.struct _) => some (True, .agg ((cs.drop off).take (P.cellsOf t)))
  | _, _ => none
theorem partV_ok {P : Program} {imm : Addr → Option Value} {σ : List Nat} {t : TypeId} {xs : List AV} {cs : Array Value} {off : Nat} {c : Prop} {z : AV} (h : partV P t xs off = some (c, z)) (hc : c) (hs : cs.size = xs.length)
    (hr : ∀ (i : Nat) x, xs[i]? = some x → Rep imm σ x (cs.getD i undef)) (w : World) : ∃ u, (part t cs off).run P w = .ok u w ∧ Rep imm σ z u ∧ z.owns = false := by
  unfold partV at h
  split at h
  · rename_i hb
    split at h
    · rename_i x hx
      cases h
      obtain ⟨u, h1, h2⟩ := run_part_cell' (imm := imm) (σ := σ) hs hr (run_isAgg' hb w) hx
      exact ⟨u, h1, h2, hc⟩
    · cases h
  · rename_i fs hb ht
    cases h
    obtain ⟨u, h1, h2⟩ := run_part_ok (imm := imm) (σ := σ) (off := off) hs hr ht w
    unfold IsV at h2
    rw [ht] at h2
    obtain ⟨us, rfl, h3, h4⟩ := h2
    exact ⟨_, h1, .agg _ _ h3 h4, rfl⟩
  · cases h
theorem look_agg {F : Fx} {g : Gh} {s : AState} {a : Act} {w : World} (h : Sim F g s a w) {x : Operand} {cs : List AV} (hx : s.look x = .agg cs) : ∃ vs, a.eval x = .agg vs ∧ vs.size = cs.length ∧ ∀ (i : Nat) (y : AV), cs[i]? = some y → Rep g.imm g.σ y (vs.getD i undef) := by
  have hr := look_rep h x
  rw [hx] at hr
  generalize a.eval x = u at hr
  cases hr with
  | agg _ vs h1 h2 => exact ⟨vs, rfl, h1, h2⟩
def resField (P : Program) (s : AState) (t : TypeId) (x : Operand) (f : Nat) : Option Res :=
  match P.underlying t, s.look x with
  | some (.struct fields), .agg cs => match fields[f]? with
    | some fd => match partV P fd.type cs fd.offset with
      | some (c, z) => some ⟨c, z, none, s⟩
      | none => none
    | none => none
  | _, _ => none
theorem ok_field (P : Program) (o : Oper) (s : AState) (t : TypeId) (x : Operand) (f : Nat) (ho : o.op = .field t x f) (r : Res) (hr : resField P s t x f = some r) (hs : r.side) : OpOk P o s r := by
  unfold resField at hr
  split at hr
  case h_2 => cases hr
  rename_i fields cs hu hx
  split at hr
  case h_2 => cases hr
  rename_i fd hf
  split at hr
  case h_2 => cases hr
  rename_i c z hp
  cases hr
  intro F g a w h
  obtain ⟨vs, hv, h1, h2⟩ := look_agg h hx
  obtain ⟨u, h3, h4, h5⟩ := partV_ok (imm := g.imm) (σ := g.σ) hp hs h1 h2 w
  refine ⟨u, w, g, none, .inl ?_, h, h4, OwnsBy.of_not h5, Floating.none, fun p hp => by cases hp⟩
  simp [execOp, ho, Instr.field, underlying, hu, hf, hv, asAgg, h3]
def resIndexA (P : Program) (s : AState) (t : TypeId) (x ix : Operand) : Option Res :=
  match P.underlying t, s.look x, s.look ix with
  | some (.array m e), .agg cs, .int _ n => match P.info? e, partV P e cs (n.toNat * P.cellsOf e) with
    | some _, some (c, z) => some ⟨(0 ≤ n ∧ n < m) ∧ c, z, none, s⟩
    | _, _ => none
  | _, _, _ => none
theorem ok_indexA (P : Program) (o : Oper) (s : AState) (t : TypeId) (x ix : Operand) (ho : o.op = .index t x ix) (r : Res) (hr : resIndexA P s t x ix = some r) (hs : r.side) : OpOk P o s r := by
  unfold resIndexA at hr
  split at hr
  case h_2 => cases hr
  rename_i m e cs k n hu hx hi
  split at hr
  case h_2 => cases hr
  rename_i j c z hj hp
  cases hr
  obtain ⟨hn, hc⟩ := hs
  intro F g a w h
  obtain ⟨vs, hv, h1, h2⟩ := look_agg h hx
  obtain ⟨u, h3, h4, h5⟩ := partV_ok (imm := g.imm) (σ := g.σ) hp hc h1 h2 w
  refine ⟨u, w, g, none, .inl ?_, h, h4, OwnsBy.of_not h5, Floating.none, fun p hp => by cases hp⟩
  have hsz : P.cellsOf e = j.size := by simp [Program.cellsOf, hj]
  rw [hsz] at h3
  simp only [execOp, ho, hv, eval_int h hi, Instr.index, asIntOf, underlying, Sem.run_bind, run_program, Result.andThen_ok, Sem.run_pure, hu, sizeOf, typeInfo, hj]
  rw [Sem.run_ite, if_pos hn]
  simp only [Sem.run_bind, run_program, Result.andThen_ok, hj, Sem.run_pure, h3]
def arrS (P : Program) (t : TypeId) : Bool :=
  match P.underlying t with
  | some (.array _ e) => (match P.underlying e with
    | some (.struct _) => true
    | _ => false)
  | _ => false
def resIdx (P : Program) (s : AState) (t : TypeId) (x ix : Operand) : Option Res :=
  match arrS P t with
  | true => resIndexA P s t x ix
  | false => resIndex P s t x ix
theorem ok_idx (P : Program) (o : Oper) (s : AState) (t : TypeId) (x ix : Operand) (ho : o.op = .index t x ix) (r : Res) (hr : resIdx P s t x ix = some r) (hs : r.side) : OpOk P o s r := by
  unfold resIdx at hr
  split at hr
  · exact ok_indexA P o s t x ix ho r hr hs
  · exact ok_index P o s t x ix ho r hr hs
end Go.Abs
set_option linter.unusedVariables false
set_option linter.unusedSimpArgs false
namespace Go.Abs
open Go
def chunk (ec : Nat) : Nat → List AV → List (List AV)
  | 0, _ => []
  | n + 1, l => l.take ec :: chunk ec n (l.drop ec)
theorem chunk_len (ec : Nat) : ∀ (n : Nat) (l : List AV), (chunk ec n l).length = n
  | 0, _ => rfl
  | n + 1, l => by simp [chunk, chunk_len ec n]
theorem chunk_get (ec : Nat) : ∀ (n : Nat) (l : List AV) (i : Nat) (e : List AV), (chunk ec n l)[i]? = some e → i < n ∧ e = (l.drop (i * ec)).take ec
  | 0, _, i, e, h => by simp [chunk] at h
  | n + 1, l, 0, e, h => by simp [chunk] at h; simp [h]
  | n + 1, l, i + 1, e, h => by
    simp only [chunk, List.getElem?_cons_succ] at h
    obtain ⟨h1, h2⟩ := chunk_get ec n _ i e h
    refine ⟨by omega, ?_⟩
    rw [h2, List.drop_drop, Nat.add_mul, Nat.one_mul, Nat.add_comm]
mutual
def AV.fz (b : Nat) (blk : List AV) : AV → AV
  | .mptr b' o => if b' = b then .cptr (blk.drop o) else .mptr b' o
  | .msl b' ec n => if b' = b then (if n * ec ≤ blk.length then .sl (chunk ec n blk) else .top) else .msl b' ec n
  | .baddr t b' => if b' = b then .top else .baddr t b'
  | .fn f fs cs => .fn f (AV.fzL b blk fs) (AV.fzL b blk cs)
  | .iface t v => .iface t (v.fz b blk)
  | .agg cs => .agg (AV.fzL b blk cs)
  | .tup cs => .tup (AV.fzL b blk cs)
  | x => x
def AV.fzL (b : Nat) (blk : List AV) : List AV → List AV
  | [] => []
  | x :: l => x.fz b blk :: AV.fzL b blk l
end
theorem fzL_eq (b : Nat) (blk : List AV) : ∀ l : List AV, AV.fzL b blk l = l.map (AV.fz b blk)
  | [] => rfl
  | x :: l => by simp [AV.fzL, fzL_eq b blk l]
theorem fzL_len (b : Nat) (blk : List AV) (l : List AV) : (AV.fzL b blk l).length = l.length := by rw [fzL_eq, List.length_map]
theorem Rep.fz {imm imm' : Addr → Option Value} {σ : List Nat} {b k : Nat} {blk : List AV} {c : Nat → Value} (hb : σ.length = b + 1) (hk : σ[b]? = some k) (hi : ∀ a v, imm a = some v → imm' a = some v)
    (hc : ∀ (j : Nat) y, blk[j]? = some y → imm' ⟨k, j, none⟩ = some (c j) ∧ Rep imm' [] y (c j)) {x : AV} {v : Value} (h : Rep imm σ x v) : Rep imm' (σ.take b) (x.fz b blk) v := by
  have htake : ∀ {σ : List Nat}, σ.length = b + 1 → ∀ (b' k' : Nat), σ[b']? = some k' → b' ≠ b → (σ.take b)[b']? = some k' := fun hb b' k' h hne => by
    have := (List.getElem?_eq_some_iff.1 h).1
    rw [List.getElem?_take, if_pos (by omega)]; exact h
  induction h with
  | int k n h1 => exact .int k n h1
  | bool b => exact .bool b
  | str s l h h1 => exact .str s l h h1
  | nilp => exact .nilp
  | mptr b' off k' h =>
    simp only [AV.fz]
    split
    · rename_i e
      subst e
      rw [hk] at h; cases h
      refine .cptr _ _ (fun j => c (off + j)) (fun j y hy => ?_) (fun j y hy => ?_)
      · rw [List.getElem?_drop] at hy; rw [add_mk]; exact (hc _ _ hy).1
      · rw [List.getElem?_drop] at hy; exact (hc _ _ hy).2
    · rename_i e; exact .mptr _ _ _ (htake hb _ _ h e)
  | baddr0 t b' h =>
    simp only [AV.fz]
    split
    · exact .top _
    · exact .baddr0 _ _ (by rw [List.length_take]; omega)
  | baddr t b' k' h =>
    simp only [AV.fz]
    split
    · exact .top _
    · rename_i e; exact .baddr _ _ _ (htake hb _ _ h e)
  | cptr cells a vs h r _ => exact .cptr cells a vs (fun j x hj => hi _ _ (h j x hj)) (fun j x hj => (r j x hj).monoI hi)
  | nsl => exact .nsl
  | osl0 ec => exact .osl0 ec
  | osl ec l a n cap vs hn hc hbd he h r _ => exact .osl ec l a n cap vs hn hc hbd he (fun i e hi' j x hj => hi _ _ (h i e hi' j x hj)) (fun i e hi' j x hj => (r i e hi' j x hj).monoI hi)
  | osq0 ec => exact .osq0 ec
  | osq ec l a n cap vs hn hc hbd he h r _ => exact .osq ec l a n cap vs hn hc hbd he (fun i e hi' j x hj => hi _ _ (h i e hi' j x hj)) (fun i e hi' j x hj => (r i e hi' j x hj).monoI hi)
  | sl0 => exact .sl0
  | sl ec l a n cap vs hn hc hbd he h r _ => exact .sl ec l a n cap vs hn hc hbd he (fun i e hi' j x hj => hi _ _ (h i e hi' j x hj)) (fun i e hi' j x hj => (r i e hi' j x hj).monoI hi)
  | fn f fs cs fv cv hf hc' _ _ ihf ihc =>
    refine .fn f _ _ fv cv (by rw [fzL_len]; exact hf) (by rw [fzL_len]; exact hc') (fun i x hx => ?_) (fun i x hx => ?_)
    · rw [fzL_eq] at hx; obtain ⟨y, hy, rfl⟩ := getElem?_map_some hx; exact ihf i y hy hb hk
    · rw [fzL_eq] at hx; obtain ⟨y, hy, rfl⟩ := getElem?_map_some hx; exact ihc i y hy hb hk
  | nilfn => exact .nilfn
  | iface t x v _ ih => exact .iface t _ v (ih hb hk)
  | nilif => exact .nilif
  | agg cs vs hs' _ ih =>
    refine .agg _ vs (by rw [fzL_len]; exact hs') (fun i x hx => ?_)
    rw [fzL_eq] at hx; obtain ⟨y, hy, rfl⟩ := getElem?_map_some hx; exact ih i y hy hb hk
  | tup cs vs hs' _ ih =>
    refine .tup _ vs (by rw [fzL_len]; exact hs') (fun i x hx => ?_)
    rw [fzL_eq] at hx; obtain ⟨y, hy, rfl⟩ := getElem?_map_some hx; exact ih i y hy hb hk
  | msl b' ec n k' cap h hcp hbd =>
    simp only [AV.fz]
    split
    · rename_i e
      subst e
      rw [hk] at h; cases h
      split
      · rename_i hle
        have hget : ∀ (i : Nat) (e : List AV), (chunk ec n blk)[i]? = some e → e.length = ec ∧ ∀ (j : Nat) x, e[j]? = some x → blk[i * ec + j]? = some x := fun i e he => by
          obtain ⟨h1, rfl⟩ := chunk_get ec n blk i e he
          have h2 := Nat.mul_le_mul_right ec (show i + 1 ≤ n by omega)
          rw [Nat.add_mul] at h2
          refine ⟨by rw [List.length_take, List.length_drop]; omega, fun j x hx => ?_⟩
          rw [List.getElem?_take] at hx
          split at hx
          · rwa [List.getElem?_drop] at hx
          · cases hx
        refine .sl ec _ _ n cap (fun i j => c (i * ec + j)) (chunk_len ec n blk).symm hcp hbd (fun i e he => (hget i e he).1) (fun i e he j x hx => ?_) (fun i e he j x hx => ?_)
        · rw [add_new]; exact (hc _ _ ((hget i e he).2 j x hx)).1
        · exact (hc _ _ ((hget i e he).2 j x hx)).2
      · exact .top _
    · rename_i e; exact .msl _ _ _ _ _ (htake hb _ _ h e) hcp hbd
  | e0 b => exact .e0 b
  | top v => exact .top v
def AState.lb (s : AState) : Nat := s.blocks.length - 1
def AState.lblk (s : AState) : List AV := s.blocks.getD s.lb []
def AState.fz (s : AState) : AState :=
  { tmps := fun t => (s.tmps t).fz s.lb s.lblk, loans := fun _ => none, n := s.n, base := s.base, blocks := (s.blocks.take s.lb).map (AV.fzL s.lb s.lblk) }
def okFz (b : Nat) (blk : List AV) : AV → Bool
  | .baddr _ b' => b' != b
  | x => (x.fz b blk).one
def okFzL (b : Nat) (blk : List AV) : List AV → Bool
  | [] => true
  | x :: l => okFz b blk x && okFzL b blk l
def okFzB (b : Nat) (blk : List AV) : List (List AV) → Bool
  | [] => true
  | x :: l => okFzL b blk x && okFzB b blk l
def FzOk (s : AState) : Prop := s.base < s.blocks.length ∧ s.lblk.all AV.inert = true ∧ okFzB s.lb s.lblk (s.blocks.take s.lb) = true
theorem okFzL_get {b : Nat} {blk : List AV} : ∀ {l : List AV}, okFzL b blk l = true → ∀ {i : Nat} {x : AV}, l[i]? = some x → okFz b blk x = true
  | [], _, i, x, hx => by simp at hx
  | y :: l, h, i, x, hx => by
    simp only [okFzL, Bool.and_eq_true] at h
    cases i with
    | zero => simp at hx; subst hx; exact h.1
    | succ i => exact okFzL_get h.2 (by simpa using hx)
theorem okFzB_get {b : Nat} {blk : List AV} : ∀ {l : List (List AV)}, okFzB b blk l = true → ∀ {i : Nat} {x : List AV}, l[i]? = some x → okFzL b blk x = true
  | [], _, i, x, hx => by simp at hx
  | y :: l, h, i, x, hx => by
    simp only [okFzB, Bool.and_eq_true] at h
    cases i with
    | zero => simp at hx; subst hx; exact h.1
    | succ i => exact okFzB_get h.2 (by simpa using hx)
theorem OwnsBy.fz {imm imm' : Addr → Option Value} {w : World} {bo : Option Nat} {b : Nat} {blk : List AV} {x : AV} {v : Value} (h : OwnsBy imm w bo x v)
    (hs : ∀ a lo hi, bo = some a.block → Spare imm w a lo hi → Spare imm' w a lo hi) : OwnsBy imm' w bo (x.fz b blk) v := by
  cases x with
  | osl ec l => exact h.world hs fun _ _ _ h => h
  | osq ec l => exact h.world hs fun _ _ _ h => h
  | mptr b' o => simp only [AV.fz]; split <;> trivial
  | msl b' ec n => simp only [AV.fz]; split; · (split <;> trivial)
                   · trivial
  | baddr t b' => simp only [AV.fz]; split <;> trivial
  | _ => trivial
theorem Sim.fz {F : Fx} {g : Gh} {s : AState} {a : Act} {w : World} (h : Sim F g s a w) (hok : FzOk s) :
    ∃ g', Sim F g' s.fz a w ∧ ∀ x v, Rep g.imm g.σ x v → Rep g'.imm g'.σ (x.fz s.lb s.lblk) v := by
  obtain ⟨h0, h1, h2⟩ := hok
  have hlen : s.blocks.length = s.lb + 1 := by unfold AState.lb; omega
  have hσl : g.σ.length = s.lb + 1 := by rw [h.sto.len, hlen]
  have hbl : s.blocks[s.lb]? = some s.lblk := some_getD [] (by omega)
  have hlt : s.lb < g.σ.length := by omega
  have hk : g.σ[s.lb]? = some g.σ[s.lb] := List.getElem?_eq_getElem hlt
  generalize g.σ[s.lb] = k at hk
  obtain ⟨c, ty, c1, c2, c3⟩ := h.sto.blk s.lb _ k hbl hk
  have hkm : k ∈ g.σ := List.mem_of_getElem? hk
  have hold : ∀ x v, g.imm x = some v → (g.row k c s.lblk.length).imm x = some v := fun x v hx => by
    simp only [Gh.row]
    rw [if_neg (fun e => h.sto.immσ x v hx (by rw [e]; exact hkm))]; exact hx
  have hin : ∀ x v, (g.row k c s.lblk.length).imm x = some v → g.imm x = some v ∨ (x.block = k ∧ w.cell? x = some v) := fun x v hx => by
    simp only [Gh.row] at hx
    split at hx
    · rename_i e
      split at hx
      · rename_i e2
        obtain ⟨xb, xo, xs⟩ := x
        simp only at e e2 hx
        obtain ⟨e3, e4⟩ := e2
        subst e; subst e3
        refine .inr ⟨rfl, ?_⟩
        rw [cell_of_block c1 xo (by omega), Array.getD_eq_getD_getElem?, hx]; rfl
      · cases hx
    · exact .inl hx
  have hcells : ∀ (j : Nat) y, s.lblk[j]? = some y → (g.row k c s.lblk.length).imm ⟨k, j, none⟩ = some (c.getD j undef) ∧ Rep (g.row k c s.lblk.length).imm [] y (c.getD j undef) := fun j y hy => by
    refine ⟨Gh.row_imm_new g k c _ j (List.getElem?_eq_some_iff.1 hy).1 c2, ?_⟩
    have h3 := all_get h1 hy
    simp only [AV.inert, Bool.and_eq_true, Bool.not_eq_true'] at h3
    exact ((c3 j y hy).2.1.flat h3.2).monoI hold
  have hrep : ∀ x v, Rep g.imm g.σ x v → Rep (g.row k c s.lblk.length).imm (g.σ.take s.lb) (x.fz s.lb s.lblk) v := fun x v hx => hx.fz hσl hk hold hcells
  have hmem : ∀ k', k' ∈ g.σ.take s.lb → k' ∈ g.σ ∧ k' ≠ k := fun k' hk' => by
    refine ⟨List.mem_of_mem_take hk', fun e => ?_⟩
    subst e
    obtain ⟨i, hi⟩ := List.getElem?_of_mem hk'
    rw [List.getElem?_take] at hi
    split at hi
    · rename_i hlt'
      have a1 := List.getElem?_eq_some_iff.1 hi
      have a2 := List.getElem?_eq_some_iff.1 hk
      obtain ⟨l1, e1⟩ := a1; obtain ⟨l2, e2⟩ := a2
      have := nodup_inj h.sto.nodup l1 l2 (by rw [e1, e2])
      omega
    · cases hi
  have hspare : ∀ p (x : Addr) lo hi, g.own p = some x.block → Spare g.imm w x lo hi → Spare (g.row k c s.lblk.length).imm w x lo hi := fun p x lo hi hp hs j h3 h4 => by
    obtain ⟨q1, q2, q3⟩ := hs j h3 h4
    refine ⟨?_, q2, q3⟩
    cases hn : (g.row k c s.lblk.length).imm (x.add j) with
    | none => first | rfl | exact hn
    | some u =>
      rcases hin _ _ hn with h5 | ⟨h5, _⟩
      · rw [q1] at h5; cases h5
      · rw [add_block] at h5
        exact ((h.sto.ownσ p _ hp).1 (by rw [h5]; exact hkm)).elim
  have hown : ∀ p k', (match p with | .cell b o => if b = s.lb then none else g.own (.cell b o) | p => g.own p) = some k' → g.own p = some k' := fun p k' hp => by
    cases p with
    | tmp t => exact hp
    | cell b o =>
      simp only at hp
      split at hp
      · cases hp
      · exact hp
  refine ⟨{ imm := (g.row k c s.lblk.length).imm, σ := g.σ.take s.lb, own := fun p => match p with | .cell b o => if b = s.lb then none else g.own (.cell b o) | p => g.own p }, ?_, hrep⟩
  exact {
    ext := { h.ext with
      imm := fun x v hx => hold x v (h.ext.imm x v hx)
      immNew := fun x v hx => by
        rcases hin x v hx with h3 | ⟨h3, _⟩
        · exact h.ext.immNew x v h3
        · exact .inr (by rw [h3]; exact h.ext.mineσ k hkm)
      σ := fun b' k' hb' => by
        have h3 := h.ext.σ b' k' hb'
        have h4 := (List.getElem?_eq_some_iff.1 hb').1
        have h5 := h.base
        show (g.σ.take s.lb)[b']? = _
        rw [List.getElem?_take, if_pos (by omega)]; exact h3
      mineσ := fun k' hk' => h.ext.mineσ k' (hmem k' hk').1
      mineOwn := fun p k' hp => h.ext.mineOwn p k' (hown p k' hp) }
    sto := {
      gok := h.sto.gok.mono hold
      imm := fun x v hx => by
        rcases hin x v hx with h3 | ⟨_, h3⟩
        · exact h.sto.imm x v h3
        · exact h3
      immσ := fun x v hx hm => by
        rcases hin x v hx with h3 | ⟨h3, _⟩
        · exact h.sto.immσ x v h3 (hmem _ hm).1
        · exact (hmem _ hm).2 h3
      len := by simp [AState.fz, hσl, hlen]
      nodup := h.sto.nodup.sublist (List.take_sublist _ _)
      blk := fun i blk' k' hb' hk' => by
        simp only [AState.fz] at hb'
        obtain ⟨bl, hb2, rfl⟩ := getElem?_map_some hb'
        have hok2 := okFzB_get h2 hb2
        rw [List.getElem?_take] at hb2 hk'
        split at hb2
        case isFalse => cases hb2
        rename_i hi
        rw [if_pos hi] at hk'
        obtain ⟨c', ty', d1, d2, d3⟩ := h.sto.blk i bl k' hb2 hk'
        refine ⟨c', ty', d1, by rw [fzL_len]; exact d2, fun j x hx => ?_⟩
        rw [fzL_eq] at hx
        obtain ⟨y, hy, rfl⟩ := getElem?_map_some hx
        obtain ⟨e1, e2, e3⟩ := d3 j y hy
        have hok3 := okFzL_get hok2 hy
        refine ⟨?_, hrep _ _ e2, ?_⟩
        · rcases e1 with e1 | ⟨e0, b', e1⟩
          · left
            cases y <;> first | exact hok3 | simp at e1
          · subst e1
            right
            simp only [okFz, bne_iff_ne, ne_eq] at hok3
            exact ⟨by rw [fzL_len]; exact e0, b', by simp [AV.fz, hok3]⟩
        · show OwnsBy _ w (if i = s.lb then none else g.own (.cell i j)) _ _
          rw [if_neg (by omega)]
          exact e3.fz fun x lo hi hx hs => hspare _ x lo hi hx hs
      ownσ := fun p k' hp => ⟨fun hm => (h.sto.ownσ p k' (hown p k' hp)).1 (hmem _ hm).1, (h.sto.ownσ p k' (hown p k' hp)).2⟩
      ownInj := fun p q k' hp hq => h.sto.ownInj p q k' (hown p k' hp) (hown q k' hq) }
    size := h.size
    tmps := fun t => ⟨hrep _ _ (h.tmps t).1, (h.tmps t).2.fz fun x lo hi hx hs => hspare _ x lo hi hx hs⟩
    loans := fun t p hp => by cases hp
    defers := h.defers
    base := h.base }
end Go.Abs
set_option linter.unusedVariables false
set_option linter.unusedSimpArgs false
namespace Go.Abs
open Go
def Enters (P : Program) (f : FuncId) : Prop := ∃ fn, P.funcs[f]? = some fn ∧ (fn.name == "runtime.NumGoroutine") = false ∧ fn.body.isNone = false
theorem Enters.run {P : Program} {f : FuncId} (h : Enters P f) (args : Array Value) (w : World) : (callFunc f args).run P w = .ok (.enter f args) w := by
  obtain ⟨fn, h1, h2, h3⟩ := h
  simp only [callFunc, Sem.run_bind, run_program, Result.andThen_ok, h1, h2, h3, Bool.false_eq_true, if_false, Sem.run_pure]
def Pure (P : Program) (f : FuncId) (args : List AV) (res : AV) : Prop :=
  Enters P f ∧ ∀ (imm : Addr → Option Value) (w : World) (vals : Array Value), (∀ x v, imm x = some v → w.cell? x = some v) → GOk imm → Tabs w → RepL imm [] args vals →
    Calls P f vals w fun e w' => ∃ imm' v, e = .returned v ∧ Rep imm' [] res v ∧ (∀ x v, imm x = some v → imm' x = some v) ∧ (∀ x v, imm' x = some v → w'.cell? x = some v) ∧
      RowKit.Below w.heap.size w w' ∧ (∀ x v, imm' x = some v → imm x = some v ∨ w.heap.size ≤ x.block)
def Raw (P : Program) (f : FuncId) (args : List AV) (bs : List (List AV)) (res : AV) (bs' : List (List AV)) : Prop :=
  Enters P f ∧ ∀ (g : Gh) (w : World) (vals : Array Value), Sto g bs w → (∀ t, g.own (.tmp t) = none) → TG g w → RepL g.imm g.σ args vals →
    Calls P f vals w fun e w' => ∃ g' v, e = .returned v ∧ Rep g'.imm g'.σ res v ∧ Sto g' bs' w' ∧ Ext ⟨w, g⟩ g' w' ∧ (∀ t, g'.own (.tmp t) = none)
def StepOk (P : Program) (o : Oper) (s s' : AState) : Prop :=
  ∀ F g a w, Sim F g s a w → ∀ (K : Act → World → Prop) (Q : Exit → Act → World → Prop), (∀ g' a' w', Sim F g' s' a' w' → K a' w') → o.wp P a w K Q
theorem OpOk.step {P : Program} {o : Oper} {s : AState} {r : Res} (h : OpOk P o s r) : StepOk P o s (s.putR o.dst r) := fun F g a w hs K Q hK => by
  obtain ⟨v, w', g', bo, hrun, h1, h2, h3, h4, h5⟩ := h F g a w hs
  have hnext : K (a.put o.dst v) w' := by
    cases hd : o.dst with
    | none => exact hK _ _ _ (by simpa [AState.putR, hd, Act.put] using h1)
    | some d =>
      have hput := h1.putL d bo r.loan h2 h3 h4 h5
      have e : s.putR (some d) r = r.st.putL d r.val r.loan := rfl
      rw [hd, e] at hK
      exact hK _ _ _ hput
  rcases hrun with hrun | ⟨hrun, rfl⟩
  · simpa only [Oper.wp, hrun, Oper.upon] using hnext
  · simpa only [Oper.wp, hrun, Oper.upon] using hnext
def AState.called (s : AState) (d : Option Nat) (res : AV) (bs' : List (List AV)) : AState :=
  ({ s with blocks := bs', loans := fun t => match s.loans t with | some (.tmp u) => some (.tmp u) | _ => none } : AState).putO d res
theorem repL_nil_σ {imm : Addr → Option Value} {σ σ' : List Nat} {l : List AV} {c : Array Value} (h : RepL imm σ l c) (hf : AV.flatL l = true) : RepL imm σ' l c :=
  ⟨h.1, fun i x hx => (h.2 i x hx).flat (flatL_get hf hx)⟩
theorem Sim.after {F : Fx} {g g' : Gh} {s : AState} {a : Act} {w w' : World} {bs' : List (List AV)} (h : Sim F g s a w) (h0 : ∀ t, g'.own (.tmp t) = none)
    (hsto : Sto g' bs' w') (hext : Ext ⟨w, { g with own := fun p => match p with | .tmp _ => none | q => g.own q }⟩ g' w') :
    Sim F { g' with own := fun p => match p with | .tmp t => g.own (.tmp t) | q => g'.own q }
      { s with blocks := bs', loans := fun t => match s.loans t with | some (.tmp u) => some (.tmp u) | _ => none } a w' := by
  generalize hF : (⟨w, { g with own := fun p => match p with | .tmp _ => none | q => g.own q }⟩ : Fx) = F2 at hext
  have hw0 : F2.w0 = w := by rw [← hF]
  have hg0i : F2.g0.imm = g.imm := by rw [← hF]
  have hg0σ : F2.g0.σ = g.σ := by rw [← hF]
  have hT : ∀ k, F2.T k → k ∈ g.σ ∨ ∃ b o, g.own (.cell b o) = some k := fun k hk => by
    rw [← hF] at hk; exact hk
  have hTm : ∀ k, F2.T k → F.mine k := fun k hk => by
    rcases hT k hk with hk | ⟨b, o, hk⟩
    · exact h.ext.mineσ k hk
    · exact h.ext.mineOwn _ k hk
  have hmine : ∀ k, F2.mine k → F.mine k := fun k hk => by
    rcases hk with hk | hk
    · rw [hw0] at hk; exact .inl (Nat.le_trans h.ext.size hk)
    · exact hTm k hk
  have hframe : ∀ t k, g.own (.tmp t) = some k → k < w.heap.size ∧ ¬ F2.T k ∧ k ∉ g'.σ ∧ (∀ p, g'.own p ≠ some k) := fun t k hk => by
    have h1 := h.sto.ownσ _ _ hk
    have h2 : ¬ F2.T k := fun hT' => by
      rcases hT k hT' with h3 | ⟨b, o, h3⟩
      · exact h1.1 h3
      · have := h.sto.ownInj _ _ k hk h3; cases this
    have h3 : ¬ F2.mine k := fun hm => by
      rcases hm with hm | hm
      · rw [hw0] at hm; omega
      · exact h2 hm
    exact ⟨h1.2, h2, fun hm => h3 (hext.mineσ k hm), fun p hp => h3 (hext.mineOwn p k hp)⟩
  have himm : ∀ x v, g.imm x = some v → g'.imm x = some v := fun x v hx => hext.imm x v (by rw [hg0i]; exact hx)
  have hσ : ∀ (b k : Nat), g.σ[b]? = some k → g'.σ[b]? = some k := fun b k hb => hext.σ b k (by rw [hg0σ]; exact hb)
  exact {
    ext := {
      gfx := h.ext.gfx
      imm := fun x v hx => himm x v (h.ext.imm x v hx)
      immNew := fun x v hx => by
        rcases hext.immNew x v hx with h1 | h1
        · rw [hg0i] at h1; exact h.ext.immNew x v h1
        · exact .inr (hmine _ h1)
      σ := fun b k hb => hσ b k (h.ext.σ b k hb)
      mineσ := fun k hk => hmine k (hext.mineσ k hk)
      mineOwn := fun p k hk => by
        cases p with
        | tmp t => exact h.ext.mineOwn _ k hk
        | cell b o => exact hmine k (hext.mineOwn _ k hk)
      keep := fun k hk hT' => by
        have h2 : ¬ F2.T k := fun h3 => by
          rcases hTm k h3 with h4 | h4
          · omega
          · exact hT' h4
        have := hext.keep k (by rw [hw0]; exact Nat.lt_of_lt_of_le hk h.ext.size) h2
        rw [this, hw0]; exact h.ext.keep k hk hT'
      size := by have := hext.size; rw [hw0] at this; exact Nat.le_trans h.ext.size this
      os := by rw [hext.os, hw0]; exact h.ext.os
      tape := by rw [hext.tape, hw0]; exact h.ext.tape
      output := by rw [hext.output, hw0]; exact h.ext.output }
    sto := { hsto with
      blk := fun i b k hb hk => by
        obtain ⟨c, ty, h1, h2, h3⟩ := hsto.blk i b k hb hk
        exact ⟨c, ty, h1, h2, h3⟩
      ownσ := fun p k hk => by
        cases p with
        | tmp t =>
          have := hframe t k hk
          have h5 := hext.size
          rw [hw0] at h5
          exact ⟨this.2.2.1, by omega⟩
        | cell b o => exact hsto.ownσ _ k hk
      ownInj := fun p q k hp hq => by
        cases p with
        | tmp t =>
          cases q with
          | tmp u => exact h.sto.ownInj _ _ k hp hq
          | cell b o => exact ((hframe t k hp).2.2.2 _ hq).elim
        | cell b o =>
          cases q with
          | tmp u => exact ((hframe u k hq).2.2.2 _ hp).elim
          | cell b' o' => exact hsto.ownInj _ _ k hp hq }
    size := h.size
    tmps := fun t => by
      obtain ⟨h1, h2⟩ := h.tmps t
      refine ⟨h1.mono himm hσ, h2.world (fun x lo hi hx hs => fun j hj1 hj2 => ?_) (fun k sh hk hsh => by
        obtain ⟨f1, f2, f3, f4⟩ := hframe t k hk
        have hkk := hext.keep k (by rw [hw0]; exact f1) f2
        rw [hw0] at hkk
        exact shape_keep hkk hsh)⟩
      obtain ⟨h3, ⟨u, hu⟩, h5⟩ := hs j hj1 hj2
      obtain ⟨f1, f2, f3, f4⟩ := hframe t x.block hx
      have hblk : (x.add j).block = x.block := add_block x j
      have hk := hext.keep x.block (by rw [hw0]; exact f1) f2
      rw [hw0] at hk
      refine ⟨?_, ⟨u, ?_⟩, ?_⟩
      · cases hn : g'.imm (x.add j) with
        | none => first | rfl | exact hn
        | some y =>
          rcases hext.immNew _ y hn with h6 | h6
          · rw [hg0i, h3] at h6; cases h6
          · rw [hblk] at h6
            rcases h6 with h6 | h6
            · rw [hw0] at h6; omega
            · exact (f2 h6).elim
      · rw [World.cell?_of_block (w := w) (by rw [hblk]; exact hk)]; exact hu
      · rw [World.frozen?_of_block (w := w) (by rw [hblk]; exact hk)]; exact h5
    loans := fun t p hp => by
      simp only at hp
      split at hp
      · rename_i u hu
        cases hp
        exact h.loans t _ hu
      · cases hp
    defers := h.defers
    base := h.base }
theorem Ext.refl' (w : World) (g : Gh) (hlt : ∀ k, k ∈ g.σ → k < w.heap.size) (h0 : ∀ t, g.own (.tmp t) = none) (htg : TG g w) : Ext ⟨w, g⟩ g w where
  gfx := htg.fx
  imm := fun _ _ h => h
  immNew := fun _ _ h => .inl h
  σ := fun _ _ h => h
  mineσ := fun k hk => .inr (.inl hk)
  mineOwn := fun p k hk => by
    cases p with
    | tmp t => rw [h0] at hk; cases hk
    | cell b o => exact .inr (.inr ⟨b, o, hk⟩)
  keep := fun _ _ _ => rfl
  size := Nat.le_refl _
  os := rfl
  tape := rfl
  output := rfl
theorem Sim.callee {F : Fx} {g : Gh} {s : AState} {a : Act} {w : World} (h : Sim F g s a w) : Sto { g with own := fun p => match p with | .tmp _ => none | q => g.own q } s.blocks w := { h.sto with
  blk := fun i b k hb hk => by
    obtain ⟨c, ty, h1, h2, h3⟩ := h.sto.blk i b k hb hk
    exact ⟨c, ty, h1, h2, h3⟩
  ownσ := fun p k hk => by
    cases p with
    | tmp t => cases hk
    | cell b o => exact h.sto.ownσ _ k hk
  ownInj := fun p q k hp hq => by
    cases p with
    | tmp t => cases hp
    | cell b o =>
      cases q with
      | tmp t => cases hq
      | cell b' o' => exact h.sto.ownInj _ _ k hp hq }
theorem Pure.raw {P : Program} {f : FuncId} {args : List AV} {res : AV} (h : Pure P f args res) (hfl : AV.flatL args = true) (bs : List (List AV)) (hr : res.owns = false) : Raw P f args bs res bs := by
  refine ⟨h.1, fun g w vals hs h0 htg ha => (h.2 g.imm w vals hs.imm hs.gok htg.1 (repL_nil_σ ha hfl)).mono fun e w' => ?_⟩
  rintro ⟨imm', v, rfl, h1, h2, h3, h4, h5⟩
  have hmono : ∀ x v, g.imm x = some v → imm' x = some v := h2
  have hkeep : ∀ k, k < w.heap.size → w'.heap[k]? = w.heap[k]? := h4.block
  refine ⟨{ g with imm := imm' }, v, rfl, h1.mono (fun _ _ h => h) (fun _ _ h => by simp at h), ?_, ?_, h0⟩
  · exact {
      gok := hs.gok.mono hmono
      imm := h3
      immσ := fun x v hx hm => by
        rcases h5 x v hx with h6 | h6
        · exact hs.immσ x v h6 hm
        · have := hs.σ_lt hm; omega
      len := hs.len
      nodup := hs.nodup
      blk := fun i b k hb hk => by
        obtain ⟨c, ty, e1, e2, e3⟩ := hs.blk i b k hb hk
        refine ⟨c, ty, by rw [hkeep k (hs.σ_lt (List.mem_of_getElem? hk))]; exact e1, e2, fun j x hx => ⟨(e3 j x hx).1, (e3 j x hx).2.1.mono hmono (fun _ _ h => h), (e3 j x hx).2.2.world (fun y lo hi hy hsp j hj1 hj2 => ?_) (fun k sh _ hsh => shape_keep (hkeep k (shape_lt hsh)) hsh)⟩⟩
        obtain ⟨p1, ⟨u, hu⟩, p3⟩ := hsp j hj1 hj2
        have hlt := World.block_lt_of_cell? _ _ hu
        have hk2 := hkeep _ hlt
        refine ⟨?_, ⟨u, by rw [World.cell?_of_block hk2]; exact hu⟩, by rw [World.frozen?_of_block hk2]; exact p3⟩
        cases hn : imm' (y.add j) with
        | none => first | exact hn | rfl
        | some z =>
          rcases h5 _ z hn with h6 | h6
          · rw [p1] at h6; cases h6
          · omega
      ownσ := fun p k hk => ⟨(hs.ownσ p k hk).1, Nat.lt_of_lt_of_le (hs.ownσ p k hk).2 h4.size⟩
      ownInj := hs.ownInj }
  · have h6 := Ext.refl' w g (fun k hk => hs.σ_lt hk) h0 htg
    exact { h6 with
      imm := h2
      immNew := fun x v hx => by
        rcases h5 x v hx with h7 | h7
        · exact .inl h7
        · exact .inr (.inl h7)
      keep := fun k hk _ => hkeep k hk
      size := h4.size
      os := h4.os
      tape := h4.tape
      output := h4.output }
def callArgs (s : AState) (first captured : List AV) (args : Array Operand) : List AV := first ++ (args.toList.map fun x => (s.look x).norm) ++ captured
theorem RepL.append {imm : Addr → Option Value} {σ : List Nat} {l l' : List AV} {c c' : Array Value} (h : RepL imm σ l c) (h' : RepL imm σ l' c') : RepL imm σ (l ++ l') (c ++ c') := by
  refine ⟨by simp [h.1, h'.1], fun i x hx => ?_⟩
  rcases append_split hx with ⟨hlt, hx1⟩ | ⟨k, rfl, hx1⟩
  · have := h.2 i x hx1
    rw [Array.getD_eq_getD_getElem?, Array.getElem?_append_left (by rw [h.1]; exact hlt), ← Array.getD_eq_getD_getElem?]; exact this
  · have := h'.2 k x hx1
    rw [Array.getD_eq_getD_getElem?, Array.getElem?_append_right (by rw [h.1]; omega), h.1, show l.length + k - l.length = k by omega, ← Array.getD_eq_getD_getElem?]; exact this
theorem repL_norm {F : Fx} {g : Gh} {s : AState} {a : Act} {w : World} (h : Sim F g s a w) (xs : Array Operand) : RepL g.imm g.σ (xs.toList.map fun x => (s.look x).norm) (xs.map a.eval) := by
  refine ⟨by simp, fun i x hx => ?_⟩
  obtain ⟨y, hy, rfl⟩ := getElem?_map_some hx
  rw [Array.getElem?_toList] at hy
  rw [Array.getD_eq_getD_getElem?, Array.getElem?_map, hy]
  exact (look_rep h y).norm
theorem ok_call {P : Program} {o : Oper} {s : AState} {c : Call} {x : Operand} {f : FuncId} {first captured : List AV} (ho : o.op = .call c) (hc : c.callee = .value x) (hx : s.look x = .fn (.func f) first captured)
    {res : AV} {bs' : List (List AV)} (h : Raw P f (callArgs s first captured c.args) s.blocks res bs') (hres : res.owns = false) : StepOk P o s (s.called o.dst res bs') := fun F g a w hs K Q hK => by
  have he := look_rep hs x
  rw [hx] at he
  cases hv : a.eval x with
  | func fn fv cv =>
    rw [hv] at he
    cases he with
    | fn _ _ _ _ _ hf hcv rf rc =>
      have hargs : RepL g.imm g.σ (callArgs s first captured c.args) ((fv ++ c.args.map a.eval) ++ cv) := RepL.append (RepL.append ⟨hf, rf⟩ (repL_norm hs c.args)) ⟨hcv, rc⟩
      have hrun : (execOp a.eval o).run P w = .ok (.enter f ((fv ++ c.args.map a.eval) ++ cv)) w := by
        simp only [execOp, ho, Sem.run_bind, resolve, hc, hv, Deferred.ofValue, Sem.run_pure, Result.andThen_ok, invoke, h.1.run]
      simp only [Oper.wp, hrun, Oper.upon]
      refine (h.2 _ w _ hs.callee (fun t => rfl) hs.ext.tg.callee hargs).mono fun e w' => ?_
      rintro ⟨g', v, rfl, h1, h2, h3, h4⟩
      have hsim := hs.after h4 h2 h3
      show K (a.put o.dst v) w'
      cases hd : o.dst with
      | none => exact hK _ _ _ (by simpa [AState.called, AState.putO, hd, Act.put] using hsim)
      | some d =>
        have hput := hsim.putTmp d none (x := res) (v := v) h1 (OwnsBy.of_not hres) Floating.none
        rw [hd] at hK
        exact hK _ _ _ hput
  | _ => rw [hv] at he; cases he
end Go.Abs
set_option linter.unusedVariables false
set_option linter.unusedSimpArgs false
namespace Go.Abs
open Go
theorem toList_eq1 {α : Type} {l : Array α} {x : α} (h : l.toList = [x]) : l = #[x] := by apply Array.ext'; simpa using h
theorem toList_eq2 {α : Type} {l : Array α} {x y : α} (h : l.toList = [x, y]) : l = #[x, y] := by apply Array.ext'; simpa using h
def absBuiltin (P : Program) (s : AState) (c : Call) (b : Builtin) : Option Res :=
  match b, c.args.toList with
  | .len, [x] => resLn P s c.argTypes x
  | .append, [x, y] => resApp P s c.argTypes x y
  | .min, [x, y] => resMM s false x y
  | .max, [x, y] => resMM s true x y
  | _, _ => none
def absOp (P : Program) (s : AState) : Op → Option Res
  | .move x => some (resMove s x)
  | .assign x => some (resAssign s x)
  | .pick c x y => some (resPick s c x y)
  | .alloc t => resAlloc P s t
  | .box t x => some (resBox P s t x)
  | .build t parts => resBuild P s t parts
  | .buildSlice t n parts => resBuildSlice P s t n parts
  | .makeSlice t l c => resMk P s t l c
  | .load t x => resLoad P s t x
  | .store t x y => resStore P s t x y
  | .nilCheck x => resNilCheck s x
  | .binOp op t x y _ => resBn P s op t x y
  | .unOp op _ x => resUn s op x
  | .convert src dst x => resConv P s src dst x
  | .makeInterface t x => resIface P s t x
  | .makeFunc f first captured => some (resFunc s f first captured)
  | .slice t x lo hi none => resSlice P s t x lo hi
  | .slice t x lo hi (some m) => resSlice3 P s t x lo hi m
  | .fieldAddr t x f => resFieldAddr P s t x f
  | .indexAddr t x i => resIx P s t x i
  | .index t x i => resIdx P s t x i
  | .field t x f => resField P s t x f
  | .extract x i => resExtract s x i
  | .call c => match c.callee with
    | .builtin b => absBuiltin P s c b
    | _ => none
  | _ => none
theorem absOp_ok {P : Program} {o : Oper} {s : AState} {r : Res} (h : absOp P s o.op = some r) (hs : r.side) : OpOk P o s r := by
  cases ho : o.op <;> rw [ho] at h <;> simp only [absOp, reduceCtorEq] at h
  case move x => cases h; exact ok_move P o s x ho
  case assign x => cases h; exact ok_assign P o s x ho
  case pick c x y => cases h; exact ok_pick P o s c x y ho hs
  case alloc t => exact ok_alloc P o s t ho r h hs
  case box t x => cases h; exact ok_box P o s t x ho hs
  case build t parts => exact ok_build P o s t parts ho r h hs
  case buildSlice t n parts => exact ok_buildSlice P o s t n parts ho r h hs
  case makeSlice t l c => exact ok_mk P o s t l c ho r h hs
  case load t x => exact ok_load P o s t x ho r h hs
  case store t x y => exact ok_store P o s t x y ho r h hs
  case nilCheck x => exact ok_nilCheck P o s x ho r h hs
  case binOp op t x y t' => exact ok_bn P o s op t t' x y ho r h hs
  case unOp op t x => exact ok_un P o s op t x ho r h hs
  case convert src dst x => exact ok_conv P o s src dst x ho r h hs
  case makeInterface t x => exact ok_iface P o s t x ho r h hs
  case makeFunc f first captured => cases h; exact ok_func P o s f first captured ho
  case slice t x lo hi mx =>
    cases mx with
    | none => exact ok_slice P o s t x lo hi ho r h hs
    | some m => exact ok_slice3 P o s t x lo hi m ho r h hs
  case fieldAddr t x f => exact ok_fieldAddr P o s t x f ho r h hs
  case indexAddr t x i => exact ok_ix P o s t x i ho r h hs
  case index t x i => exact ok_idx P o s t x i ho r h hs
  case field t x f => exact ok_field P o s t x f ho r h hs
  case extract x i => exact ok_extract P o s x i ho r h hs
  case call c =>
    obtain ⟨callee, args, argTypes⟩ := c
    cases callee with
    | builtin b =>
      simp only [absBuiltin] at h
      split at h
      · rename_i x hx
        have := toList_eq1 hx; subst this
        exact ok_ln P o s argTypes x ho r h hs
      · rename_i x y hx
        have := toList_eq2 hx; subst this
        exact ok_app P o s argTypes x y ho r h hs
      · rename_i x y hx
        have := toList_eq2 hx; subst this
        exact ok_mm P o s argTypes false x y ho r h hs
      · rename_i x y hx
        have := toList_eq2 hx; subst this
        exact ok_mm P o s argTypes true x y ho r h hs
      · cases h
    | value x => simp at h
    | invoke x m => simp at h
theorem ok_call_pure {P : Program} {o : Oper} {s : AState} {c : Call} {x : Operand} {f : FuncId} {first captured : List AV} (ho : o.op = .call c) (hc : c.callee = .value x) (hx : s.look x = .fn (.func f) first captured)
    {res : AV} (h : Pure P f (callArgs s first captured c.args) res) (hfl : AV.flatL (callArgs s first captured c.args) = true) (hres : res.owns = false) : StepOk P o s (s.putO o.dst res) := fun F g a w hs K Q hK => by
  have he := look_rep hs x
  rw [hx] at he
  cases hv : a.eval x with
  | func fn fv cv =>
    rw [hv] at he
    cases he with
    | fn _ _ _ _ _ hf hcv rf rc =>
      have hargs : RepL g.imm g.σ (callArgs s first captured c.args) ((fv ++ c.args.map a.eval) ++ cv) := RepL.append (RepL.append ⟨hf, rf⟩ (repL_norm hs c.args)) ⟨hcv, rc⟩
      have hrun : (execOp a.eval o).run P w = .ok (.enter f ((fv ++ c.args.map a.eval) ++ cv)) w := by
        simp only [execOp, ho, Sem.run_bind, resolve, hc, hv, Deferred.ofValue, Sem.run_pure, Result.andThen_ok, invoke, h.1.run]
      simp only [Oper.wp, hrun, Oper.upon]
      refine (h.2 g.imm w _ hs.sto.imm hs.sto.gok hs.ext.tabs (repL_nil_σ hargs hfl)).mono fun e w' => ?_
      rintro ⟨imm', v, rfl, h1, h2, h3, h4, h5⟩
      have hsim := hs.grow h2 h3 h4 h5
      show K (a.put o.dst v) w'
      cases hd : o.dst with
      | none => exact hK _ _ _ (by simpa [AState.putO, hd, Act.put] using hsim)
      | some d =>
        have hput := hsim.putTmp d none (x := res) (v := v) (h1.mono (fun _ _ h => h) (fun _ _ h => by simp at h)) (OwnsBy.of_not hres) Floating.none
        rw [hd] at hK
        exact hK _ _ _ hput
  | _ => rw [hv] at he; cases he
def ResK (s : AState) (dst : Option Nat) (r : Option Res) (K : AState → Prop) : Prop :=
  match r with
  | some r => r.side ∧ K (s.putR dst r)
  | none => False
@[congr] theorem ResK_congr {s : AState} {dst : Option Nat} {r r' : Option Res} {K : AState → Prop} (h : r = r') : ResK s dst r K = ResK s dst r' K := by rw [h]
@[simp ↓] theorem ResK_some (s : AState) (dst : Option Nat) (r : Res) (K : AState → Prop) : ResK s dst (some r) K = (r.side ∧ K (s.putR dst r)) := Eq.trans rfl rfl
@[simp ↓] theorem ResK_none (s : AState) (dst : Option Nat) (K : AState → Prop) : ResK s dst none K = False := Eq.trans rfl rfl
def callArgs0 (s : AState) (first captured : List AV) (args : Array Operand) : List AV := first ++ (args.toList.map fun x => s.look x) ++ captured
theorem repL_look {F : Fx} {g : Gh} {s : AState} {a : Act} {w : World} (h : Sim F g s a w) (xs : Array Operand) : RepL g.imm g.σ (xs.toList.map fun x => s.look x) (xs.map a.eval) := by
  refine ⟨by simp, fun i x hx => ?_⟩
  obtain ⟨y, hy, rfl⟩ := getElem?_map_some hx
  rw [Array.getElem?_toList] at hy
  rw [Array.getD_eq_getD_getElem?, Array.getElem?_map, hy]
  exact look_rep h y
def PureO (P : Program) (f : FuncId) (args : List AV) (ec : EC) (l : List (List AV)) : Prop :=
  Enters P f ∧ ∀ (imm : Addr → Option Value) (w : World) (vals : Array Value), (∀ x v, imm x = some v → w.cell? x = some v) → GOk imm → Tabs w → RepL imm [] args vals →
    Calls P f vals w fun e w' => ∃ imm' v bo, e = .returned v ∧ Rep imm' [] (.osl ec l) v ∧ OwnsBy imm' w' bo (.osl ec l) v ∧ (∀ k, bo = some k → w.heap.size ≤ k ∧ k < w'.heap.size) ∧
      (∀ x v, imm x = some v → imm' x = some v) ∧ (∀ x v, imm' x = some v → w'.cell? x = some v) ∧ RowKit.Below w.heap.size w w' ∧ (∀ x v, imm' x = some v → imm x = some v ∨ w.heap.size ≤ x.block)
theorem ok_call_pureO {P : Program} {o : Oper} {s : AState} {c : Call} {x : Operand} {f : FuncId} {first captured : List AV} (ho : o.op = .call c) (hc : c.callee = .value x) (hx : s.look x = .fn (.func f) first captured)
    {ec : EC} {l : List (List AV)} (h : PureO P f (callArgs0 s first captured c.args) ec l) (hfl : AV.flatL (callArgs0 s first captured c.args) = true) : StepOk P o s (s.putO o.dst (.osl ec l)) := fun F g a w hs K Q hK => by
  have he := look_rep hs x
  rw [hx] at he
  cases hv : a.eval x with
  | func fn fv cv =>
    rw [hv] at he
    cases he with
    | fn _ _ _ _ _ hf hcv rf rc =>
      have hargs : RepL g.imm g.σ (callArgs0 s first captured c.args) ((fv ++ c.args.map a.eval) ++ cv) := RepL.append (RepL.append ⟨hf, rf⟩ (repL_look hs c.args)) ⟨hcv, rc⟩
      have hrun : (execOp a.eval o).run P w = .ok (.enter f ((fv ++ c.args.map a.eval) ++ cv)) w := by
        simp only [execOp, ho, Sem.run_bind, resolve, hc, hv, Deferred.ofValue, Sem.run_pure, Result.andThen_ok, invoke, h.1.run]
      simp only [Oper.wp, hrun, Oper.upon]
      refine (h.2 g.imm w _ hs.sto.imm hs.sto.gok hs.ext.tabs (repL_nil_σ hargs hfl)).mono fun e w' => ?_
      rintro ⟨imm', v, bo, rfl, h1, hO, hbo, h2, h3, h4, h5⟩
      have hsim := hs.grow h2 h3 h4 h5
      show K (a.put o.dst v) w'
      cases hd : o.dst with
      | none => exact hK _ _ _ (by simpa [AState.putO, hd, Act.put] using hsim)
      | some d =>
        have hput := hsim.putTmp d bo (x := .osl ec l) (v := v) (h1.mono (fun _ _ h => h) (fun _ _ h => by simp at h)) hO (fun k hk => by
          obtain ⟨b1, b2⟩ := hbo k hk
          refine ⟨fun p hp => ?_, .inl (Nat.le_trans hs.ext.size b1), b2, fun hm => ?_⟩
          · have := (hs.sto.ownσ p k hp).2; omega
          · have := hs.sto.σ_lt hm; omega)
        rw [hd] at hK
        exact hK _ _ _ hput
  | _ => rw [hv] at he; cases he
def CallP0 (P : Program) (f : FuncId) (args args0 : List AV) (s : AState) (dst : Option Nat) (K : AState → Prop) : Prop :=
  (∃ res, Pure P f args res ∧ AV.flatL args = true ∧ res.owns = false ∧ K (s.putO dst res)) ∨
  (∃ res bs', Raw P f args s.blocks res bs' ∧ res.owns = false ∧ K (s.called dst res bs')) ∨
  (∃ ec l, PureO P f args0 ec l ∧ AV.flatL args0 = true ∧ K (s.putO dst (.osl ec l)))
def CallF (P : Program) (f : FuncId) : Nat → List AV → List AV → AState → Option Nat → (AState → Prop) → Prop
  | 0, args, args0, s, dst, K => CallP0 P f args args0 s dst K
  | k + 1, args, args0, s, dst, K => FzOk s ∧ CallF P f k (args.map (AV.fz s.lb s.lblk)) (args0.map (AV.fz s.lb s.lblk)) s.fz dst K
def CallP (P : Program) (f : FuncId) (args args0 : List AV) (s : AState) (dst : Option Nat) (K : AState → Prop) : Prop := ∃ k, CallF P f k args args0 s dst K
@[congr] theorem CallP_congr {P : Program} {f : FuncId} {args args' args0 args0' : List AV} {s : AState} {dst : Option Nat} {K : AState → Prop} (h : args = args') (h0 : args0 = args0') : CallP P f args args0 s dst K = CallP P f args' args0' s dst K := by rw [h, h0]
theorem callPure {P : Program} {f : FuncId} {args args0 : List AV} {s : AState} {dst : Option Nat} {K : AState → Prop} {res : AV} (h : Pure P f args res) (h1 : AV.flatL args = true) (h2 : res.owns = false) (h3 : K (s.putO dst res)) : CallP P f args args0 s dst K :=
  ⟨0, .inl ⟨res, h, h1, h2, h3⟩⟩
theorem callRaw {P : Program} {f : FuncId} {args args0 : List AV} {s : AState} {dst : Option Nat} {K : AState → Prop} {res : AV} {bs bs' : List (List AV)} (h : Raw P f args bs res bs') (h1 : s.blocks = bs) (h2 : res.owns = false) (h3 : K (s.called dst res bs')) : CallP P f args args0 s dst K :=
  ⟨0, .inr (.inl ⟨res, bs', by rw [h1]; exact h, h2, h3⟩)⟩
theorem callOwn {P : Program} {f : FuncId} {args args0 : List AV} {s : AState} {dst : Option Nat} {K : AState → Prop} {ec : EC} {l : List (List AV)} (h : PureO P f args0 ec l) (h1 : AV.flatL args0 = true) (h3 : K (s.putO dst (.osl ec l))) : CallP P f args args0 s dst K :=
  ⟨0, .inr (.inr ⟨ec, l, h, h1, h3⟩)⟩
theorem callFz {P : Program} {f : FuncId} {args args0 : List AV} {s : AState} {dst : Option Nat} {K : AState → Prop} (h : FzOk s) (h1 : CallP P f (args.map (AV.fz s.lb s.lblk)) (args0.map (AV.fz s.lb s.lblk)) s.fz dst K) : CallP P f args args0 s dst K := by
  obtain ⟨k, h1⟩ := h1
  exact ⟨k + 1, h, h1⟩
theorem copy_fz (b : Nat) (blk : List AV) (x : AV) : (x.fz b blk).copy = x.copy.fz b blk := by
  cases x with
  | mptr b' o => by_cases h : b' = b <;> simp [AV.fz, h]
  | baddr t b' => by_cases h : b' = b <;> simp [AV.fz, h]
  | msl b' ec n => by_cases h : b' = b <;> by_cases h2 : n * ec ≤ blk.length <;> simp [AV.fz, h, h2]
  | _ => rfl
theorem norm1_fz (b : Nat) (blk : List AV) (x : AV) : (x.fz b blk).norm1 = x.norm1.fz b blk := by
  cases x with
  | mptr b' o => by_cases h : b' = b <;> simp [AV.fz, h]
  | baddr t b' => by_cases h : b' = b <;> simp [AV.fz, h]
  | msl b' ec n => by_cases h : b' = b <;> by_cases h2 : n * ec ≤ blk.length <;> simp [AV.fz, h, h2]
  | _ => rfl
theorem norm_fz (b : Nat) (blk : List AV) (x : AV) : (x.fz b blk).norm = x.norm.fz b blk := by
  cases x with
  | mptr b' o => by_cases h : b' = b <;> simp [AV.fz, h]
  | baddr t b' => by_cases h : b' = b <;> simp [AV.fz, h]
  | msl b' ec n => by_cases h : b' = b <;> by_cases h2 : n * ec ≤ blk.length <;> simp [AV.fz, h, h2]
  | agg cs =>
    simp only [AV.norm, AV.fz]
    rw [fzL_eq, fzL_eq, List.map_map, List.map_map]
    congr 1
    exact List.map_congr_left fun x _ => norm1_fz b blk x
  | _ => rfl
theorem const1_fz (b : Nat) (blk : List AV) (v : Value) : (AV.ofConst1 v).fz b blk = AV.ofConst1 v := by
  unfold AV.ofConst1
  split <;> first | rfl | (split <;> rfl)
theorem const_fz (b : Nat) (blk : List AV) (v : Value) : (AV.ofConst v).fz b blk = AV.ofConst v := by
  unfold AV.ofConst
  split
  · simp only [AV.fz, fzL_eq, List.map_map]
    congr 1
    exact List.map_congr_left fun x _ => const1_fz b blk x
  · exact const1_fz b blk v
theorem ev_fz (s : AState) (x : Operand) : s.fz.ev x = (s.ev x).fz s.lb s.lblk := by
  cases x with
  | tmp t => rfl
  | const v => exact (const_fz _ _ v).symm
  | func f => rfl
  | global g => rfl
theorem look_fz (s : AState) (x : Operand) : s.fz.look x = (s.look x).fz s.lb s.lblk := by
  unfold AState.look; rw [ev_fz, copy_fz]
theorem callArgs_fz (s : AState) (first captured : List AV) (args : Array Operand) : callArgs s.fz (AV.fzL s.lb s.lblk first) (AV.fzL s.lb s.lblk captured) args = (callArgs s first captured args).map (AV.fz s.lb s.lblk) := by
  unfold callArgs
  rw [fzL_eq, fzL_eq, List.map_append, List.map_append, List.map_map]
  congr 2
  exact List.map_congr_left fun x _ => by show (s.fz.look x).norm = _; rw [look_fz, norm_fz]; rfl
theorem callArgs0_fz (s : AState) (first captured : List AV) (args : Array Operand) : callArgs0 s.fz (AV.fzL s.lb s.lblk first) (AV.fzL s.lb s.lblk captured) args = (callArgs0 s first captured args).map (AV.fz s.lb s.lblk) := by
  unfold callArgs0
  rw [fzL_eq, fzL_eq, List.map_append, List.map_append, List.map_map]
  congr 2
  exact List.map_congr_left fun x _ => by show s.fz.look x = _; rw [look_fz]; rfl
theorem callF_ok {P : Program} {o : Oper} {c : Call} {x : Operand} {f : FuncId} (ho : o.op = .call c) (hc : c.callee = .value x) {K : AState → Prop} : ∀ (k : Nat) (s : AState) (first captured : List AV), s.look x = .fn (.func f) first captured →
    CallF P f k (callArgs s first captured c.args) (callArgs0 s first captured c.args) s o.dst K → ∃ s', StepOk P o s s' ∧ K s'
  | 0, s, first, captured, hx, h => by
    rcases h with ⟨res, h1, h2, h3, h4⟩ | ⟨res, bs', h1, h2, h3⟩ | ⟨ec, l, h1, h2, h3⟩
    · exact ⟨_, ok_call_pure ho hc hx h1 h2 h3, h4⟩
    · exact ⟨_, ok_call ho hc hx h1 h2, h3⟩
    · exact ⟨_, ok_call_pureO ho hc hx h1 h2, h3⟩
  | k + 1, s, first, captured, hx, h => by
    obtain ⟨h1, h2⟩ := h
    rw [← callArgs_fz, ← callArgs0_fz] at h2
    obtain ⟨s', h3, h4⟩ := callF_ok ho hc k s.fz _ _ (by rw [look_fz, hx]; rfl) h2
    refine ⟨s', fun F g a w hs K' Q hK => ?_, h4⟩
    obtain ⟨g', hs', _⟩ := hs.fz h1
    exact h3 F g' a w hs' K' Q hK
def TailV (v : AV) (X Y : Prop) : Prop :=
  match v with
  | .osq _ _ => X
  | _ => Y
@[congr] theorem TailV_congr {v v' : AV} {X Y : Prop} (h : v = v') : TailV v X Y = TailV v' X Y := by rw [h]
def EmpK (n : Nat) (ps : Array (Nat × Operand)) (X Y : Prop) : Prop := X ∨ (n = 0 ∧ ps = #[] ∧ Y)
@[congr] theorem EmpK_congr {n n' : Nat} {ps : Array (Nat × Operand)} {X Y : Prop} (h : n = n') : EmpK n ps X Y = EmpK n' ps X Y := by rw [h]
@[simp] theorem EmpK_ne {n : Nat} {ps : Array (Nat × Operand)} {X Y : Prop} (h : n ≠ 0) : EmpK n ps X Y = X := by simp [EmpK, h]
theorem empL {n : Nat} {ps : Array (Nat × Operand)} {X Y : Prop} (h : X) : EmpK n ps X Y := .inl h
theorem empR {X Y : Prop} (h : Y) : EmpK 0 #[] X Y := .inr ⟨rfl, rfl, h⟩
def AStep (P : Program) (o : Oper) (s : AState) (K : AState → Prop) : Prop :=
  match o.op with
  | .call c => match c.callee with
    | .value x => match s.look x with
      | .fn (.func f) first captured => CallP P f (callArgs s first captured c.args) (callArgs0 s first captured c.args) s o.dst K
      | _ => False
    | .builtin b => ResK s o.dst (absBuiltin P s c b) K
    | _ => False
  | .buildSlice t n ps => EmpK n ps (ResK s o.dst (resBuildSlice P s t n ps) K) (ResK s o.dst (resEmp P s t) K)
  | .slice t x (some lo) none none => TailV (s.takeV x) (ResK s o.dst (resTail P s t x lo) K) (ResK s o.dst (resSlice P s t x (some lo) none) K)
  | op => ResK s o.dst (absOp P s op) K
@[congr] theorem AStep_congr {P : Program} {o : Oper} {s s' : AState} {K : AState → Prop} (h : s = s') : AStep P o s K = AStep P o s' K := by rw [h]
theorem AStep.ok {P : Program} {o : Oper} {s : AState} {K : AState → Prop} (h : AStep P o s K) : ∃ s', StepOk P o s s' ∧ K s' := by
  have other : ∀ r, absOp P s o.op = some r → r.side → K (s.putR o.dst r) → ∃ s', StepOk P o s s' ∧ K s' := fun r h1 h2 h3 => ⟨_, (absOp_ok h1 h2).step, h3⟩
  unfold AStep at h
  split at h
  · rename_i c ho
    split at h
    · rename_i x hc
      split at h
      · rename_i f first captured hx
        obtain ⟨k, h⟩ := h
        exact callF_ok ho hc k s first captured hx h
      · exact h.elim
    · rename_i b hc
      unfold ResK at h
      split at h
      · rename_i r hr
        exact other r (by rw [ho]; simp only [absOp, hc]; exact hr) h.1 h.2
      · exact h.elim
    · exact h.elim
  · rename_i t n ps ho
    rcases h with h | ⟨rfl, rfl, h⟩
    · unfold ResK at h
      split at h
      · rename_i r hr
        exact other r (by rw [ho]; exact hr) h.1 h.2
      · exact h.elim
    · unfold ResK at h
      split at h
      · rename_i r hr
        exact ⟨_, (ok_emp P o s t ho r hr h.1).step, h.2⟩
      · exact h.elim
  · rename_i t x lo ho
    unfold TailV at h
    split at h
    · unfold ResK at h
      split at h
      · rename_i r hr
        exact ⟨_, (ok_tail P o s t x lo ho r hr h.1).step, h.2⟩
      · exact h.elim
    · unfold ResK at h
      split at h
      · rename_i r hr
        exact other r (by rw [ho]; exact hr) h.1 h.2
      · exact h.elim
  · unfold ResK at h
    split at h
    · rename_i r hr
      exact other r hr h.1 h.2
    · exact h.elim
def GuardK (b want : Bool) (X Y : Prop) : Prop := (b = want → X) ∧ (b = !want → Y)
@[congr] theorem GuardK_congr {b b' want : Bool} {X Y : Prop} (h : b = b') : GuardK b want X Y = GuardK b' want X Y := by rw [h]
@[simp ↓] theorem GuardK_tt (X Y : Prop) : GuardK true true X Y = X := by simp [GuardK]
@[simp ↓] theorem GuardK_ff (X Y : Prop) : GuardK false false X Y = X := by simp [GuardK]
@[simp ↓] theorem GuardK_tf (X Y : Prop) : GuardK true false X Y = Y := by simp [GuardK]
@[simp ↓] theorem GuardK_ft (X Y : Prop) : GuardK false true X Y = Y := by simp [GuardK]
def GuardV (v : AV) (want : Bool) (X Y : Prop) : Prop :=
  match v with
  | .bool b => GuardK b want X Y
  | .tup [] => Y
  | _ => False
@[congr] theorem GuardV_congr {v v' : AV} {want : Bool} {X Y : Prop} (h : v = v') : GuardV v want X Y = GuardV v' want X Y := by rw [h]
@[simp ↓] theorem GuardV_bool (b want : Bool) (X Y : Prop) : GuardV (.bool b) want X Y = GuardK b want X Y := Eq.trans rfl rfl
@[simp ↓] theorem GuardV_tup (want : Bool) (X Y : Prop) : GuardV (.tup []) want X Y = Y := Eq.trans rfl rfl
def GuardAt (d : Option Nat) (f : Nat → Prop) : Prop :=
  match d with
  | some d => f d
  | none => False
@[congr] theorem GuardAt_congr {d d' : Option Nat} {f : Nat → Prop} (h : d = d') : GuardAt d f = GuardAt d' f := by rw [h]
@[simp ↓] theorem GuardAt_some (d : Nat) (f : Nat → Prop) : GuardAt (some d) f = f d := Eq.trans rfl rfl
@[simp ↓] theorem GuardAt_none (f : Nat → Prop) : GuardAt none f = False := Eq.trans rfl rfl
def AOps (P : Program) (ops : Array Oper) (K : AState → Prop) : List Oper → AState → Prop
  | [], s => K s
  | o :: l, s => match o.guard with
    | none => AStep P o s (AOps P ops K l)
    | some (j, want) => GuardAt ((ops[j]?).bind (·.dst)) fun d => GuardV (s.get d) want (AStep P o s (AOps P ops K l)) (AOps P ops K l (s.putO o.dst (.tup [])))
@[congr] theorem AOps_congr {P : Program} {ops : Array Oper} {K : AState → Prop} {l : List Oper} {s s' : AState} (h : s = s') : AOps P ops K l s = AOps P ops K l s' := by rw [h]
theorem Sim.putUndef {F : Fx} {g : Gh} {s : AState} {a : Act} {w : World} (h : Sim F g s a w) (d : Option Nat) : ∃ g', Sim F g' (s.putO d (.tup [])) (a.put d undef) w := by
  cases d with
  | none => exact ⟨g, h⟩
  | some d => exact ⟨_, h.putTmp d none (.tup [] #[] rfl (by simp)) trivial Floating.none⟩
theorem yielded_of_bool {ops : Array Oper} {tmps : Array Value} {j d : Nat} {b : Bool} (h : (ops[j]?).bind (·.dst) = some d) (hv : tmps.getD d undef = .bool b) : yielded ops tmps j = some b := by
  unfold yielded
  rw [h]
  simp only [Option.bind_some]
  by_cases hd : d < tmps.size
  · rw [Array.getD_eq_getD_getElem?, Array.getElem?_eq_getElem hd] at hv
    simp only [Option.getD_some] at hv
    rw [Array.getElem?_eq_getElem hd, hv]
  · rw [Array.getD_eq_getD_getElem?, Array.getElem?_eq_none (by omega)] at hv; cases hv
theorem yielded_of_undef {ops : Array Oper} {tmps : Array Value} {j d : Nat} (h : (ops[j]?).bind (·.dst) = some d) (hv : tmps.getD d undef = undef) : yielded ops tmps j = none := by
  unfold yielded
  rw [h]
  simp only [Option.bind_some]
  by_cases hd : d < tmps.size
  · rw [Array.getD_eq_getD_getElem?, Array.getElem?_eq_getElem hd] at hv
    simp only [Option.getD_some] at hv
    rw [Array.getElem?_eq_getElem hd, hv]; rfl
  · rw [Array.getElem?_eq_none (by omega)]
theorem AOps.sound {P : Program} {ops : Array Oper} {K : AState → Prop} {Q : Exit → Act → World → Prop} {F : Fx} (hK : ∀ g s a w, K s → Sim F g s a w → Q .normal a w) :
    ∀ (l : List Oper) (s : AState) (g : Gh) (a : Act) (w : World), AOps P ops K l s → Sim F g s a w → wpList P ops Q l a w := by
  intro l
  induction l with
  | nil => exact fun s g a w h hs => hK g s a w h hs
  | cons o l ih =>
    intro s g a w h hs
    have step : AStep P o s (AOps P ops K l) → o.wp P a w (wpList P ops Q l) Q := fun h => by
      obtain ⟨s', h1, h2⟩ := h.ok
      exact h1 F g a w hs _ Q fun g' a' w' hs' => ih s' g' a' w' h2 hs'
    have skip : AOps P ops K l (s.putO o.dst (.tup [])) → wpList P ops Q l (a.put o.dst undef) w := fun h => by
      obtain ⟨g', hs'⟩ := hs.putUndef o.dst
      exact ih _ g' _ w h hs'
    unfold AOps at h
    unfold wpList
    cases hg : o.guard with
    | none =>
      rw [hg] at h
      rw [if_pos (by simp [Region.wanted, hg])]
      exact .inl (step h)
    | some q =>
      obtain ⟨j, want⟩ := q
      rw [hg] at h
      simp only [GuardAt] at h
      split at h
      · rename_i d hd
        have hr := (hs.tmps d).1
        unfold GuardV at h
        split at h
        · rename_i b hb
          have hb' : s.tmps d = .bool b := hb
          rw [hb'] at hr
          have hv : a.tmps.getD d undef = .bool b := by cases hh : a.tmps.getD d undef <;> rw [hh] at hr <;> cases hr; rfl
          have hy := yielded_of_bool hd hv
          by_cases hbw : b = want
          · rw [if_pos (by simp [Region.wanted, hg, hy, hbw])]
            exact .inl (step (h.1 hbw))
          · rw [if_neg (by simp [Region.wanted, hg, hy, hbw])]
            exact skip (h.2 (by cases b <;> cases want <;> simp_all))
        · rename_i hb
          have hb' : s.tmps d = .tup [] := hb
          rw [hb'] at hr
          have hv : a.tmps.getD d undef = undef := by
            cases hh : a.tmps.getD d undef <;> rw [hh] at hr <;> cases hr
            rename_i vs hsz _
            have : vs = #[] := by simpa using hsz
            subst this; rfl
          have hy := yielded_of_undef hd hv
          rw [if_neg (by simp [Region.wanted, hg, hy])]
          exact skip h
        · exact h.elim
      · exact h.elim
def AWp (P : Program) (c : Code) (Q : Exit → AState → Prop) (s : AState) : Prop :=
  ∀ F g a w, Sim F g s a w → c.wp P (fun e a' w' => ∃ g' s', Sim F g' s' a' w' ∧ Q e s') a w
def seqK (N : AState → Prop) (Q : Exit → AState → Prop) : Exit → AState → Prop
  | .normal, s => N s
  | e, s => Q e s
def blockK (id : Nat) (Q : Exit → AState → Prop) : Exit → AState → Prop
  | .exit id', s => if id' = id then Q .normal s else Q (.exit id') s
  | e, s => Q e s
def AState.fresh (s : AState) : AState := { s with loans := fun _ => none }
theorem Sim.fresh {F : Fx} {g : Gh} {s : AState} {a : Act} {w : World} (h : Sim F g s a w) : Sim F g s.fresh a w := { h with loans := fun t p hp => by cases hp }
theorem awp_region {P : Program} {id : Nat} {ops : Array Oper} {Q : Exit → AState → Prop} {s : AState} (h : AOps P ops (Q .normal) ops.toList s.fresh) : AWp P (.region id ops false) Q s :=
  fun F g a w hs => wp_region_list (AOps.sound (K := Q .normal) (fun g s a w hk hs => ⟨g, s, hs, hk⟩) _ _ _ _ _ h hs.fresh)
theorem awp_mono {P : Program} {c : Code} {Q Q' : Exit → AState → Prop} {s : AState} (h : AWp P c Q s) (hq : ∀ e s, Q e s → Q' e s) : AWp P c Q' s :=
  fun F g a w hs => wp_mono (h F g a w hs) fun e a w ⟨g', s', h1, h2⟩ => ⟨g', s', h1, hq e s' h2⟩
theorem awp_seq {P : Program} {x y : Code} {Q : Exit → AState → Prop} {s : AState} (h : AWp P x (seqK (AWp P y Q) Q) s) : AWp P (.seq x y) Q s := fun F g a w hs => by
  refine wp_seq (wp_mono (h F g a w hs) fun e a' w' ⟨g', s', h1, h2⟩ => ?_)
  cases e with
  | normal => exact h2 F g' a' w' h1
  | _ => exact ⟨g', s', h1, h2⟩
theorem awp_fz {P : Program} {c : Code} {Q : Exit → AState → Prop} {s : AState} (hok : FzOk s) (h : AWp P c Q s.fz) : AWp P c Q s := fun F g a w hs => by
  obtain ⟨g', hs', _⟩ := hs.fz hok
  exact h F g' a w hs'
theorem awp_cond {P : Program} {c : Operand} {x y : Code} {Q : Exit → AState → Prop} {s : AState} {b : Bool} (hc : s.look c = .bool b) (h1 : b = true → AWp P x Q s) (h2 : b = false → AWp P y Q s) :
    AWp P (.cond c x y) Q s := fun F g a w hs =>
  wp_cond_split (eval_bool hs hc) (fun hb => h1 hb F g a w hs) (fun hb => h2 hb F g a w hs)
theorem awp_block {P : Program} {id : Nat} {c : Code} {Q : Exit → AState → Prop} {s : AState} (h : AWp P c (blockK id Q) s) : AWp P (.block id c) Q s := fun F g a w hs => by
  refine wp_block (wp_mono (h F g a w hs) fun e a' w' ⟨g', s', h1, h2⟩ => ?_)
  cases e with
  | exit id' =>
    simp only [Exit.inBlock, blockK] at h2 ⊢
    split
    · rename_i e; rw [if_pos e] at h2; exact ⟨g', s', h1, h2⟩
    · rename_i e; rw [if_neg e] at h2; exact ⟨g', s', h1, h2⟩
  | _ => exact ⟨g', s', h1, h2⟩
end Go.Abs
set_option linter.unusedVariables false
set_option linter.unusedSimpArgs false
namespace Go.Abs
open Go
@[simp] def leAV : AV → AV → Prop
  | _, .top => True
  | .nsl, .osl _ l => l = []
  | .nsl, .osq _ l => l = []
  | .nsl, .sl l => l = []
  | .e0, .sl l => l = []
  | .osl ec l, .osl ec' l' => ec = ec' ∧ l = l'
  | .osl ec l, .osq ec' l' => ec = ec' ∧ l = l'
  | .osq ec l, .osq ec' l' => ec = ec' ∧ l = l'
  | .osl _ l, .sl l' => l = l'
  | .osq _ l, .sl l' => l = l'
  | .agg cs, .agg cs' => cs = cs' ∨ cs.map AV.norm1 = cs'
  | x, y => x = y
theorem leAV.le {x y : AV} (h : leAV x y) : x.le y := by
  unfold leAV at h
  split at h
  · exact .inl rfl
  · subst h; exact .inr (.inr (.inr (.inr (.inr (.inr (.inl ⟨rfl, _, rfl⟩))))))
  · subst h; exact .inr (.inr (.inr (.inr (.inr (.inr (.inr (.inl ⟨rfl, _, rfl⟩)))))))
  · subst h; exact .inr (.inr (.inl rfl))
  · subst h; exact .inr (.inr (.inl rfl))
  · obtain ⟨rfl, rfl⟩ := h; exact .inr (.inl rfl)
  · obtain ⟨rfl, rfl⟩ := h; exact .inr (.inr (.inr (.inr (.inr (.inr (.inr (.inr ⟨_, _, rfl, rfl⟩)))))))
  · obtain ⟨rfl, rfl⟩ := h; exact .inr (.inl rfl)
  · subst h; exact .inr (.inr (.inl rfl))
  · subst h; exact .inr (.inr (.inl rfl))
  · rcases h with rfl | rfl
    · exact .inr (.inl rfl)
    · exact .inr (.inr (.inr (.inl rfl)))
  · subst h; exact .inr (.inl rfl)
def AllBelow (m : Nat) (bs : List (List AV)) : Prop := ∀ (i j : Nat) blk x, bs[i]? = some blk → blk[j]? = some x → x.under m = true
structure AState.Le (s s' : AState) : Prop where
  tmps : ∀ t, leAV (s.tmps t) (s'.tmps t)
  loans : ∀ t, s'.loans t = none
  n : s'.n = s.n
  base : s'.base = s.base
  hbase : s.base ≤ s'.blocks.length
  short : s'.blocks.length ≤ s.blocks.length
  blocks : ∀ (b : Nat) blk', s'.blocks[b]? = some blk' → ∃ blk, s.blocks[b]? = some blk ∧ blk.length = blk'.length ∧ ∀ (o : Nat) x', blk'[o]? = some x' → ∃ x, blk[o]? = some x ∧ leAV x x' ∧ (x'.one = true ∨ x = x')
  below : s'.blocks.length = s.blocks.length ∨ ((∀ t, (s'.tmps t).under s'.blocks.length = true) ∧ AllBelow s'.blocks.length s'.blocks)
theorem OwnsBy.le {imm : Addr → Option Value} {σ : List Nat} {w : World} {bo : Option Nat} {x y : AV} {v : Value} (h : OwnsBy imm w bo x v) (hr : Rep imm σ x v) (hl : x.le y) : OwnsBy imm w bo y v := by
  rcases hl with rfl | rfl | rfl | rfl | rfl | rfl | ⟨rfl, ec, rfl⟩ | ⟨rfl, ec, rfl⟩ | ⟨ec, l, rfl, rfl⟩
  · trivial
  · exact h
  · exact OwnsBy.of_not (owns_norm1 _)
  · exact OwnsBy.of_not (owns_norm _)
  · exact OwnsBy.of_not (owns_normR _)
  · exact OwnsBy.of_not (owns_copy _)
  · intro base n cap hv; subst hv; cases hr; exact .inl rfl
  · intro base n cap hv; subst hv; cases hr; exact .inl rfl
  · intro base n cap hv
    rcases h base n cap hv with h | ⟨a, h1, h2, _, h3⟩
    · exact .inl h
    · exact .inr ⟨a, h1, h2, h3⟩
theorem take_length_eq {α : Type} {l : List α} {m : Nat} (h : m = l.length) : l.take m = l := by subst h; simp
theorem Sim.le' {F : Fx} {g : Gh} {s s' : AState} {a : Act} {w : World} (h : Sim F g s a w) (hl : s.Le s') : ∃ g', Sim F g' s' a w ∧ g'.imm = g.imm ∧ g'.σ = g.σ.take s'.blocks.length := by
  have hlen : s'.blocks.length ≤ g.σ.length := by rw [h.sto.len]; exact hl.short
  have htake : ∀ (b k : Nat), (g.σ.take s'.blocks.length)[b]? = some k → g.σ[b]? = some k ∧ b < s'.blocks.length := fun b k hb => by
    rw [List.getElem?_take] at hb
    split at hb
    · rename_i h1; exact ⟨hb, h1⟩
    · cases hb
  have hrep : ∀ x v, Rep g.imm g.σ x v → (s'.blocks.length = s.blocks.length ∨ x.under s'.blocks.length = true) → Rep g.imm (g.σ.take s'.blocks.length) x v := fun x v hr hb => by
    rcases hb with hb | hb
    · rw [take_length_eq (by rw [h.sto.len]; exact hb)]; exact hr
    · exact hr.under _ hb
  refine ⟨{ g with σ := g.σ.take s'.blocks.length }, ?_, rfl, rfl⟩
  exact {
    ext := { h.ext with
      imm := h.ext.imm
      immNew := h.ext.immNew
      σ := fun b k hb => by
        have h1 : b < s'.blocks.length := by
          have := (List.getElem?_eq_some_iff.1 hb).1
          have h2 := h.base
          have h3 := hl.hbase
          omega
        show (g.σ.take s'.blocks.length)[b]? = some k
        rw [List.getElem?_take, if_pos h1]; exact h.ext.σ b k hb
      mineσ := fun k hk => h.ext.mineσ k (List.mem_of_mem_take hk)
      mineOwn := h.ext.mineOwn }
    sto := {
      gok := h.sto.gok
      imm := h.sto.imm
      immσ := fun x v hx hm => h.sto.immσ x v hx (List.mem_of_mem_take hm)
      len := by simp [hlen]
      nodup := h.sto.nodup.sublist (List.take_sublist _ _)
      blk := fun i blk' k hb hk => by
        obtain ⟨hk1, hk2⟩ := htake i k hk
        obtain ⟨blk, e1, e2, e3⟩ := hl.blocks i blk' hb
        obtain ⟨c, ty, f1, f2, f3⟩ := h.sto.blk i blk k e1 hk1
        refine ⟨c, ty, f1, by omega, fun j x' hx' => ?_⟩
        obtain ⟨x, p1, p2, p3⟩ := e3 j x' hx'
        obtain ⟨q1, q2, q3⟩ := f3 j x p1
        refine ⟨?_, hrep _ _ (q2.le p2.le) ?_, q3.le q2 p2.le⟩
        · rcases p3 with p3 | p3
          · exact .inl p3
          · rw [← p3]; exact q1.imp (fun e => by omega)
        rcases hl.below with hb' | ⟨_, hb'⟩
        · exact .inl hb'
        · exact .inr (hb' i j blk' x' hb hx')
      ownσ := fun p k hk => ⟨fun hm => (h.sto.ownσ p k hk).1 (List.mem_of_mem_take hm), (h.sto.ownσ p k hk).2⟩
      ownInj := h.sto.ownInj }
    size := by rw [hl.n]; exact h.size
    tmps := fun t => by
      refine ⟨hrep _ _ ((h.tmps t).1.le (hl.tmps t).le) ?_, (h.tmps t).2.le (h.tmps t).1 (hl.tmps t).le⟩
      rcases hl.below with hb' | ⟨hb', _⟩
      · exact .inl hb'
      · exact .inr (hb' t)
    loans := fun t p hp => by rw [hl.loans] at hp; cases hp
    defers := h.defers
    base := by rw [hl.base]; exact h.base }
theorem Sim.le {F : Fx} {g : Gh} {s s' : AState} {a : Act} {w : World} (h : Sim F g s a w) (hl : s.Le s') : ∃ g', Sim F g' s' a w := by
  obtain ⟨g', h1, _⟩ := h.le' hl
  exact ⟨g', h1⟩
theorem awp_le {P : Program} {c : Code} {Q : Exit → AState → Prop} {s s' : AState} (h : AWp P c Q s') (hl : s.Le s') : AWp P c Q s := fun F g a w hs => by
  obtain ⟨g', hs'⟩ := hs.le hl
  exact h F g' a w hs'
theorem awp_loop {P : Program} {c : Code} {Q : Exit → AState → Prop} {s : AState} {α : Type} (I : α → AState) (μ : α → Nat) (x0 : α) (h0 : s.Le (I x0))
    (round : ∀ x, AWp P c (seqK (fun s' => ∃ y, s'.Le (I y) ∧ μ y < μ x) Q) (I x)) : AWp P (.loop c) Q s := by
  intro F g a w hs b k cs
  obtain ⟨g0, hs0⟩ := hs.le h0
  have key : ∀ n x, μ x = n → ∀ g a w, Sim F g (I x) a w →
      ∃ e a' w', (∃ g' s', Sim F g' s' a' w' ∧ Q e s') ∧ Arrives P (lone (b.at a (.code c :: .inLoop c :: k)) cs w) b k cs e a' w' := by
    intro n
    induction n using Nat.strongRecOn with
    | _ n ih =>
      intro x hn g a w hI
      obtain ⟨e, a₁, w₁, ⟨g1, s1, h1, h2⟩, harr⟩ := round x F g a w hI b (.inLoop c :: k) cs
      cases e with
      | normal =>
        obtain ⟨y, hy, hlt⟩ := h2
        obtain ⟨g2, h3⟩ := h1.le hy
        obtain ⟨e₂, a₂, w₂, hq₂, harr₂⟩ := ih (μ y) (hn ▸ hlt) y rfl g2 a₁ w₁ h3
        exact ⟨e₂, a₂, w₂, hq₂, .of_steps (Steps.trans harr (.one step_inLoop)) harr₂⟩
      | exit id => exact ⟨_, a₁, w₁, ⟨g1, s1, h1, h2⟩, .pass (x := .inLoop c) rfl (fun _ _ => .inl (by simp)) harr⟩
      | goto l => exact ⟨_, a₁, w₁, ⟨g1, s1, h1, h2⟩, .pass (x := .inLoop c) rfl (fun _ _ => .inl (by simp)) harr⟩
      | ret => exact ⟨_, a₁, w₁, ⟨g1, s1, h1, h2⟩, .pass (x := .inLoop c) rfl (fun _ _ => .inl (by simp)) harr⟩
      | panic ch => exact ⟨_, a₁, w₁, ⟨g1, s1, h1, h2⟩, .pass (x := .inLoop c) rfl (fun _ _ => .inl (by simp)) harr⟩
      | outgrown => exact ⟨_, a₁, w₁, ⟨g1, s1, h1, h2⟩, .pass (x := .inLoop c) rfl (fun _ _ => .inl (by simp)) harr⟩
  obtain ⟨e, a', w', hq, harr⟩ := key _ x0 rfl g0 a w hs0
  exact ⟨e, a', w', hq, .of_steps (.one step_loop) harr⟩
def lookD : List (Nat × AV) → Nat → AV
  | [], _ => .top
  | (u, x) :: l, t => if t = u then x else lookD l t
def mkS (n base : Nat) (live : List (Nat × AV)) (blocks : List (List AV)) : AState := ⟨lookD live, fun _ => none, n, base, blocks⟩
theorem le_lookD {f : Nat → AV} : ∀ (live : List (Nat × AV)), (∀ q, q ∈ live → leAV (f q.1) q.2) → ∀ t, leAV (f t) (lookD live t)
  | [], _, t => by simp [lookD]
  | (u, x) :: l, h, t => by
    simp only [lookD]
    split
    · rename_i e; subst e; exact h (t, x) (List.mem_cons_self ..)
    · exact le_lookD l (fun q hq => h q (List.mem_cons_of_mem _ hq)) t
theorem below_lookD {m : Nat} : ∀ (live : List (Nat × AV)), (∀ q, q ∈ live → q.2.under m = true) → ∀ t, (lookD live t).under m = true
  | [], _, t => by simp [lookD, AV.under]
  | (u, x) :: l, h, t => by
    simp only [lookD]
    split
    · exact h (u, x) (List.mem_cons_self ..)
    · exact below_lookD l (fun q hq => h q (List.mem_cons_of_mem _ hq)) t
@[simp] def leCells : List AV → List AV → Prop
  | [], [] => True
  | x :: l, y :: l' => leAV x y ∧ (y.one = true ∨ x = y) ∧ leCells l l'
  | _, _ => False
@[simp] def leBlocks : List (List AV) → List (List AV) → Prop
  | _, [] => True
  | x :: l, y :: l' => leCells x y ∧ leBlocks l l'
  | [], _ :: _ => False
theorem leCells.get : ∀ {l l' : List AV}, leCells l l' → l.length = l'.length ∧ ∀ (o : Nat) x', l'[o]? = some x' → ∃ x, l[o]? = some x ∧ leAV x x' ∧ (x'.one = true ∨ x = x')
  | [], [], _ => ⟨rfl, fun o x' h => by simp at h⟩
  | x :: l, y :: l', h => by
    obtain ⟨h1, h2, h3⟩ := h
    obtain ⟨h4, h5⟩ := leCells.get h3
    refine ⟨by simp [h4], fun o x' hx => ?_⟩
    cases o with
    | zero => simp at hx; subst hx; exact ⟨x, rfl, h1, h2⟩
    | succ o => simpa using h5 o x' (by simpa using hx)
  | [], _ :: _, h => h.elim
  | _ :: _, [], h => h.elim
theorem leBlocks.get : ∀ {l l' : List (List AV)}, leBlocks l l' → l'.length ≤ l.length ∧ ∀ (b : Nat) blk', l'[b]? = some blk' → ∃ blk, l[b]? = some blk ∧ leCells blk blk'
  | l, [], _ => ⟨by simp, fun b blk' h => by simp at h⟩
  | x :: l, y :: l', h => by
    obtain ⟨h1, h2⟩ := h
    obtain ⟨h3, h4⟩ := leBlocks.get h2
    refine ⟨by simp; exact h3, fun b blk' hb => ?_⟩
    cases b with
    | zero => simp at hb; subst hb; exact ⟨x, rfl, h1⟩
    | succ b => simpa using h4 b blk' (by simpa using hb)
  | [], _ :: _, h => h.elim
theorem allBelow_of {m : Nat} {bs : List (List AV)} (h : ∀ blk, blk ∈ bs → AV.underL m blk = true) : AllBelow m bs := fun i j blk x hi hj => underL_get (h blk (List.mem_of_getElem? hi)) hj
theorem Le.lit {s : AState} {n base : Nat} {live : List (Nat × AV)} {blocks : List (List AV)} (hn : s.n = n) (hb : s.base = base) (hbl : base ≤ blocks.length)
    (h1 : ∀ q, q ∈ live → leAV (s.get q.1) q.2) (h2 : leBlocks s.blocks blocks)
    (h3 : s.blocks.length = blocks.length ∨ ((∀ q, q ∈ live → q.2.under blocks.length = true) ∧ ∀ blk, blk ∈ blocks → AV.underL blocks.length blk = true)) : s.Le (mkS n base live blocks) where
  tmps := le_lookD live h1
  loans := fun t => rfl
  n := hn.symm
  base := hb.symm
  hbase := by rw [hb]; exact hbl
  short := h2.get.1
  blocks := fun b blk' hb' => by
    obtain ⟨blk, e1, e2⟩ := h2.get.2 b blk' hb'
    exact ⟨blk, e1, e2.get.1, e2.get.2⟩
  below := by
    rcases h3 with h3 | ⟨h3, h4⟩
    · exact .inl h3.symm
    · exact .inr ⟨below_lookD live h3, allBelow_of h4⟩
end Go.Abs
set_option linter.unusedVariables false
set_option linter.unusedSimpArgs false
namespace Go.Abs
open Go
def absRes1 (P : Program) (s : AState) : ResultVar → Option (Prop × AV)
  | .tmp t => some (True, (s.get t).copy)
  | .cell a t => match s.get a with
    | .mptr b o => loadV P t ((s.blocks.getD b []).drop o)
    | _ => none
def absResL (P : Program) (s : AState) : List ResultVar → Option (Prop × List AV)
  | [] => some (True, [])
  | r :: l => match absRes1 P s r, absResL P s l with
    | some (c, x), some (c', xs) => some (c ∧ c', x :: xs)
    | _, _ => none
def oneOf : List AV → AV
  | [x] => x
  | l => .tup l
def resSem (tmps : Array Value) : ResultVar → Sem Value
  | .tmp t => pure (tmps.getD t undef)
  | .cell b t => do loadVar t (← asAddr (tmps.getD b undef))
theorem results_eq (fn : Func) (tmps : Array Value) : results fn tmps = (do let vs ← fn.results.mapM (resSem tmps); pure (if h : vs.size = 1 then vs[0] else .tuple vs)) := by
  unfold results
  congr 1
theorem res1_ok {P : Program} {F : Fx} {g : Gh} {s : AState} {a : Act} {w : World} (h : Sim F g s a w) {r : ResultVar} {c : Prop} {x : AV} (hr : absRes1 P s r = some (c, x)) (hc : c) :
    ∃ v, (resSem a.tmps r).run P w = .ok v w ∧ Rep g.imm g.σ x v := by
  cases r with
  | tmp t =>
    simp only [absRes1, Option.some.injEq, Prod.mk.injEq] at hr
    obtain ⟨rfl, rfl⟩ := hr
    exact ⟨_, rfl, (h.tmps t).1.copy⟩
  | cell b t =>
    simp only [absRes1] at hr
    split at hr
    · rename_i bb off hx
      have he := (h.tmps b).1
      have hx' : s.tmps b = .mptr bb off := hx
      rw [hx'] at he
      cases hv : a.tmps.getD b undef with
      | pointer p =>
        rw [hv] at he
        cases he with
        | mptr _ _ k hk =>
          have hcell : ∀ (j : Nat) y, ((s.blocks.getD bb []).drop off)[j]? = some y → ∃ u, w.cell? ((⟨k, off, none⟩ : Addr).add j) = some u ∧ Rep g.imm g.σ y u := fun j y hy => by
            rw [List.getElem?_drop] at hy
            obtain ⟨u, h1, h2, _⟩ := h.cell hy hk
            exact ⟨u, by rw [add_mk]; exact h1, h2⟩
          obtain ⟨u, h1, h2, h3, h4⟩ := loadV_ok (imm := g.imm) (σ := g.σ) (w := w) (b := ⟨k, off, none⟩)
            (vs := fun j => (w.cell? ((⟨k, off, none⟩ : Addr).add j)).getD undef) hr hc
            (fun j y hy => by obtain ⟨u, hu, _⟩ := hcell j y hy; rw [hu]; rfl) (fun j y hy => by obtain ⟨u, hu, hr⟩ := hcell j y hy; rw [hu]; exact hr)
          exact ⟨u, by simp only [resSem, Sem.run_bind, hv, asAddr, Sem.run_pure, Result.andThen_ok, h1], h2⟩
      | _ => rw [hv] at he; cases he
    · cases hr
theorem resL_ok {P : Program} {F : Fx} {g : Gh} {s : AState} {a : Act} {w : World} (h : Sim F g s a w) : ∀ (l : List ResultVar) (c : Prop) (xs : List AV), absResL P s l = some (c, xs) → c →
    ∃ vs : List Value, (l.mapM (resSem a.tmps)).run P w = .ok vs w ∧
      vs.length = xs.length ∧ ∀ (i : Nat) x, xs[i]? = some x → ∃ v, vs[i]? = some v ∧ Rep g.imm g.σ x v := by
  intro l
  induction l with
  | nil =>
    intro c xs hl hc
    simp only [absResL, Option.some.injEq, Prod.mk.injEq] at hl
    obtain ⟨rfl, rfl⟩ := hl
    exact ⟨[], by simp, rfl, fun i x hx => by simp at hx⟩
  | cons r l ih =>
    intro c xs hl hc
    simp only [absResL] at hl
    split at hl
    · rename_i c1 x c2 xs' h1 h2
      simp only [Option.some.injEq, Prod.mk.injEq] at hl
      obtain ⟨rfl, rfl⟩ := hl
      obtain ⟨v, e1, e2⟩ := res1_ok h h1 hc.1
      obtain ⟨vs, f1, f2, f3⟩ := ih c2 xs' h2 hc.2
      refine ⟨v :: vs, ?_, by simp [f2], fun i y hy => ?_⟩
      · simp only [List.mapM_cons, Sem.run_bind, e1, Result.andThen_ok, f1, Sem.run_pure]
      · cases i with
        | zero => simp at hy; subst hy; exact ⟨v, rfl, e2⟩
        | succ i => simpa using f3 i y (by simpa using hy)
    · cases hl
theorem results_ok {P : Program} {F : Fx} {g : Gh} {s : AState} {a : Act} {w : World} (h : Sim F g s a w) {fn : Func} {c : Prop} {xs : List AV} (hr : absResL P s fn.results.toList = some (c, xs)) (hc : c) :
    ∃ v, (results fn a.tmps).run P w = .ok v w ∧ Rep g.imm g.σ (oneOf xs) v := by
  obtain ⟨vs, h1, h2, h3⟩ := resL_ok h _ c xs hr hc
  have hrun : (fn.results.mapM (resSem a.tmps)).run P w = .ok vs.toArray w := by
    rw [Array.mapM_eq_mapM_toList]
    simp only [Sem.run_map, h1, Result.andThen_ok]
  rw [results_eq]
  simp only [Sem.run_bind]
  refine ⟨if h : vs.toArray.size = 1 then vs.toArray[0] else .tuple vs.toArray, ?_, ?_⟩
  · have := hrun
    simp only [hrun, Result.andThen_ok, Sem.run_pure]
  · cases xs with
    | nil =>
      have : vs = [] := by simpa using h2
      subst this
      simpa [oneOf] using Rep.tup (imm := g.imm) (σ := g.σ) [] #[] rfl (by simp)
    | cons x xs =>
      cases xs with
      | nil =>
        obtain ⟨v, hv, hr⟩ := h3 0 x rfl
        match vs, h2, hv with
        | [u], _, hv =>
          simp at hv; subst hv
          simpa [oneOf] using hr
      | cons y xs =>
        have hne : vs.toArray.size ≠ 1 := by simp [h2]
        rw [dif_neg hne]
        refine .tup _ _ (by simp [h2]) fun i z hz => ?_
        obtain ⟨v, hv, hr⟩ := h3 i z hz
        rw [Array.getD_eq_getD_getElem?, List.getElem?_toArray, hv]; exact hr
def Ret (P : Program) (fn : Func) (R : AV → AState → Prop) : Exit → AState → Prop
  | .normal, s | .ret, s => match absResL P s fn.results.toList with
    | some (c, xs) => c ∧ R (oneOf xs).normR s
    | none => False
  | _, _ => False
def start (n base : Nat) (args : List AV) (bs : List (List AV)) : AState := ⟨fun t => args.getD t (.tup []), fun _ => none, n, base, bs⟩
theorem start_tmps {imm : Addr → Option Value} {σ : List Nat} {args : List AV} {vals : Array Value} (h : RepL imm σ args vals) (n t : Nat) :
    Rep imm σ (args.getD t (.tup [])) ((vals ++ Array.replicate n undef).getD t undef) := by
  by_cases ht : t < args.length
  · have h1 := h.2 t _ (some_getD (.tup []) ht)
    rwa [Array.getD_eq_getD_getElem?, Array.getElem?_append_left (by rw [h.1]; exact ht), ← Array.getD_eq_getD_getElem?]
  · rw [List.getD_eq_getElem?_getD, List.getElem?_eq_none (by omega), Array.getD_eq_getD_getElem?, Array.getElem?_append_right (by rw [h.1]; omega)]
    have : ((Array.replicate n undef)[t - vals.size]?).getD undef = undef := by
      rw [Array.getElem?_replicate]; split <;> rfl
    rw [this]
    exact .tup [] #[] rfl (by simp)
theorem owns_getD {args : List AV} (h : args.all (fun x => !x.owns) = true) (t : Nat) : (args.getD t (.tup [])).owns = false := by
  by_cases ht : t < args.length
  · have := all_get h (some_getD (.tup []) ht)
    simpa using this
  · rw [List.getD_eq_getElem?_getD, List.getElem?_eq_none (by omega)]; rfl
theorem sim_start {g : Gh} {w : World} {n : Nat} {args : List AV} {bs : List (List AV)} {vals : Array Value} (hs : Sto g bs w) (h0 : ∀ t, g.own (.tmp t) = none) (ha : RepL g.imm g.σ args vals)
    (hn : args.length ≤ n) (hown : args.all (fun x => !x.owns) = true) (htg : TG g w) :
    Sim ⟨w, g⟩ g (start n bs.length args bs) { tmps := vals ++ Array.replicate (n - vals.size) undef, defers := [] } w where
  ext := Ext.refl' w g (fun k hk => hs.σ_lt hk) h0 htg
  sto := hs
  size := by simp [start, ha.1]; omega
  tmps := fun t => ⟨start_tmps ha _ t, OwnsBy.of_not (owns_getD hown t)⟩
  loans := fun t p hp => by cases hp
  defers := rfl
  base := by simp [start, hs.len]
theorem body_ok {P : Program} {f : FuncId} {fn : Func} {c : Code} {args : List AV} {bs : List (List AV)} {R : AV → AState → Prop} (hf : P.funcs[f]? = some fn) (hb : fn.body = some c)
    (hn : args.length ≤ fn.ntmps) (hown : args.all (fun x => !x.owns) = true) (h : AWp P c (Ret P fn R) (start fn.ntmps bs.length args bs))
    {g : Gh} {w : World} {vals : Array Value} (hs : Sto g bs w) (h0 : ∀ t, g.own (.tmp t) = none) (htg : TG g w) (ha : RepL g.imm g.σ args vals) :
    Calls P f vals w fun e w' => ∃ g' s' a' v r, e = .returned v ∧ Sim ⟨w, g⟩ g' s' a' w' ∧ Rep g'.imm g'.σ r v ∧ R r s' := by
  refine calls_of_wp hf hb (wp_mono (h ⟨w, g⟩ g _ w (sim_start hs h0 ha hn hown htg)) fun e a' w' ⟨g', s', h1, h2⟩ => ?_)
  have key : (match absResL P s' fn.results.toList with | some (c, xs) => c ∧ R (oneOf xs).normR s' | none => False) →
      a'.defers = [] ∧ ∃ v, (results fn a'.tmps).run P w' = .ok v w' ∧ ∃ g2 s2 a2 v2 r, Ending.returned v = .returned v2 ∧ Sim ⟨w, g⟩ g2 s2 a2 w' ∧ Rep g2.imm g2.σ r v2 ∧ R r s2 := fun h2 => by
    split at h2
    · rename_i c xs hr
      obtain ⟨v, e1, e2⟩ := results_ok h1 hr h2.1
      exact ⟨h1.defers, v, e1, g', s', a', v, _, rfl, h1, e2.normR, h2.2⟩
    · exact h2.elim
  cases e with
  | normal => exact key h2
  | ret => exact key h2
  | _ => exact h2.elim
def AState.dropB (s : AState) : AState := ⟨fun _ => .top, fun _ => none, s.n, s.base, s.blocks.take (s.blocks.length - 1)⟩
def underBl (m : Nat) : List (List AV) → Bool
  | [] => true
  | b :: l => AV.underL m b && underBl m l
theorem underBl_get {m : Nat} : ∀ {l : List (List AV)}, underBl m l = true → ∀ b, b ∈ l → AV.underL m b = true
  | [], _, b, hb => by cases hb
  | x :: l, h, b, hb => by
    simp only [underBl, Bool.and_eq_true] at h
    rcases List.mem_cons.1 hb with rfl | hb
    · exact h.1
    · exact underBl_get h.2 b hb
def DropOk (s : AState) (r : AV) : Prop := s.base < s.blocks.length ∧ r.under (s.blocks.length - 1) = true ∧ underBl (s.blocks.length - 1) (s.blocks.take (s.blocks.length - 1)) = true
theorem DropOk.le {s : AState} {r : AV} (h : DropOk s r) : s.Le s.dropB := by
  obtain ⟨h1, h2, h3⟩ := h
  have hlen : s.dropB.blocks.length = s.blocks.length - 1 := by simp only [AState.dropB, List.length_take]; omega
  exact {
    tmps := fun t => by show leAV _ .top; cases s.tmps t <;> simp
    loans := fun t => rfl
    n := rfl
    base := rfl
    hbase := by rw [hlen]; omega
    short := by rw [hlen]; omega
    blocks := fun b blk' hb => by
      simp only [AState.dropB, List.getElem?_take] at hb
      split at hb
      · refine ⟨blk', hb, rfl, fun o x' hx => ⟨x', hx, ?_, .inr rfl⟩⟩
        cases x' <;> simp
      · cases hb
    below := .inr ⟨fun t => rfl, by rw [hlen]; exact allBelow_of (underBl_get h3)⟩ }
def FzR : List Bool → (AV → AState → Prop) → AV → AState → Prop
  | [], R, r, s => R r s
  | true :: k, R, r, s => FzOk s ∧ FzR k R (r.fz s.lb s.lblk) s.fz
  | false :: k, R, r, s => DropOk s r ∧ FzR k R r s.dropB
theorem FzR.open {F : Fx} {a : Act} {w : World} {v : Value} {R : AV → AState → Prop} : ∀ (k : List Bool) (g : Gh) (s : AState) (r : AV), Sim F g s a w → Rep g.imm g.σ r v → FzR k R r s → ∃ g' s' r', Sim F g' s' a w ∧ Rep g'.imm g'.σ r' v ∧ R r' s'
  | [], g, s, r, h1, h2, h3 => ⟨g, s, r, h1, h2, h3⟩
  | true :: k, g, s, r, h1, h2, h3 => by
    obtain ⟨g', h4, h5⟩ := h1.fz h3.1
    exact FzR.open k g' s.fz _ h4 (h5 _ _ h2) h3.2
  | false :: k, g, s, r, h1, h2, h3 => by
    obtain ⟨g', h4, h5, h6⟩ := h1.le' h3.1.le
    refine FzR.open k g' s.dropB r h4 ?_ h3.2
    have hl : s.dropB.blocks.length = s.blocks.length - 1 := by simp only [AState.dropB, List.length_take]; have := h3.1.1; omega
    rw [h5, h6, hl]
    exact h2.under _ h3.1.2.1
theorem body_okF (k : List Bool) {P : Program} {f : FuncId} {fn : Func} {c : Code} {args : List AV} {bs : List (List AV)} {R : AV → AState → Prop} (hf : P.funcs[f]? = some fn) (hb : fn.body = some c)
    (hn : args.length ≤ fn.ntmps) (hown : args.all (fun x => !x.owns) = true) (h : AWp P c (Ret P fn (FzR k R)) (start fn.ntmps bs.length args bs))
    {g : Gh} {w : World} {vals : Array Value} (hs : Sto g bs w) (h0 : ∀ t, g.own (.tmp t) = none) (htg : TG g w) (ha : RepL g.imm g.σ args vals) :
    Calls P f vals w fun e w' => ∃ g' s' a' v r, e = .returned v ∧ Sim ⟨w, g⟩ g' s' a' w' ∧ Rep g'.imm g'.σ r v ∧ R r s' :=
  (body_ok hf hb hn hown h hs h0 htg ha).mono fun e w' => by
    rintro ⟨g', s', a', v, r, rfl, h1, h2, h3⟩
    obtain ⟨g2, s2, r2, h4, h5, h6⟩ := h3.open k g' s' r h1 h2
    exact ⟨g2, s2, a', v, r2, rfl, h4, h5, h6⟩
theorem pure_of_bodyF (k : List Bool) {P : Program} {f : FuncId} {fn : Func} {c : Code} {args : List AV} {res : AV} (hf : P.funcs[f]? = some fn) (hname : (fn.name == "runtime.NumGoroutine") = false) (hb : fn.body = some c)
    (hn : args.length ≤ fn.ntmps) (hown : args.all (fun x => !x.owns) = true) (hres : res.flat = true) (h : AWp P c (Ret P fn (FzR k fun r _ => r = res)) (start fn.ntmps 0 args [])) : Pure P f args res := by
  refine ⟨⟨fn, hf, hname, by rw [hb]; rfl⟩, fun imm w vals him hgl htb ha => ?_⟩
  have hs : Sto ⟨imm, [], fun _ => none⟩ [] w := {
    gok := hgl
    imm := him
    immσ := fun x v _ hm => by cases hm
    len := rfl
    nodup := List.nodup_nil
    blk := fun i b k hb _ => by simp at hb
    ownσ := fun p k hk => by cases hk
    ownInj := fun p q k hk => by cases hk }
  refine (body_okF k (bs := []) hf hb hn hown h hs (fun _ => rfl) ⟨htb, fun k hk => (by cases hk), fun p k hk => by cases hk⟩ ha).mono fun e w' => ?_
  rintro ⟨g', s', a', v, r, rfl, h1, h2, rfl⟩
  have hT : ∀ k, ¬ (⟨w, ⟨imm, [], fun _ => none⟩⟩ : Fx).T k := fun k hk => by
    rcases hk with hk | ⟨b, o, hk⟩
    · cases hk
    · cases hk
  refine ⟨g'.imm, v, rfl, h2.flat hres, h1.ext.imm, h1.sto.imm, ⟨h1.ext.os, h1.ext.tape, h1.ext.output, h1.ext.size, fun k hk => h1.ext.keep k hk (hT k)⟩, fun x u hx => ?_⟩
  rcases h1.ext.immNew x u hx with h3 | h3 | h3
  · exact .inl h3
  · exact .inr h3
  · exact (hT _ h3).elim
theorem pure_of_body {P : Program} {f : FuncId} {fn : Func} {c : Code} {args : List AV} {res : AV} (hf : P.funcs[f]? = some fn) (hname : (fn.name == "runtime.NumGoroutine") = false) (hb : fn.body = some c)
    (hn : args.length ≤ fn.ntmps) (hown : args.all (fun x => !x.owns) = true) (hres : res.flat = true) (h : AWp P c (Ret P fn fun r _ => r = res) (start fn.ntmps 0 args [])) : Pure P f args res := pure_of_bodyF [] hf hname hb hn hown hres h
def endS (s : AState) (bs : List (List AV)) : AState := ⟨fun _ => .top, fun _ => none, s.n, s.base, bs⟩
def Good (bs : List (List AV)) : Prop := ∀ (i j : Nat) blk x, bs[i]? = some blk → blk[j]? = some x → (x.one = true ∨ ∃ t b, x = .baddr t b) ∧ x.under bs.length = true
theorem Sto.good {g : Gh} {bs : List (List AV)} {w : World} (h : Sto g bs w) : Good bs := fun i j blk x hi hj => by
  have hl : i < g.σ.length := by rw [h.len]; exact (List.getElem?_eq_some_iff.1 hi).1
  obtain ⟨c, ty, h1, h2, h3⟩ := h.blk i blk _ hi (List.getElem?_eq_getElem hl)
  obtain ⟨e1, e2, e3⟩ := h3 j x hj
  exact ⟨e1.elim .inl fun ⟨_, b, e1⟩ => .inr ⟨_, _, e1⟩, by rw [← h.len]; exact e2.isUnder⟩
theorem raw_of_bodyF (k : List Bool) {P : Program} {f : FuncId} {fn : Func} {c : Code} {args : List AV} {bs bs' : List (List AV)} {res : AV} (hf : P.funcs[f]? = some fn) (hname : (fn.name == "runtime.NumGoroutine") = false) (hb : fn.body = some c)
    (hn : args.length ≤ fn.ntmps) (hown : args.all (fun x => !x.owns) = true)
    (h : Good bs → AWp P c (Ret P fn (FzR k fun r s => r = res ∧ s.Le (endS s bs') ∧ (bs'.length = s.blocks.length ∨ res.under bs'.length = true))) (start fn.ntmps bs.length args bs)) : Raw P f args bs res bs' := by
  refine ⟨⟨fn, hf, hname, by rw [hb]; rfl⟩, fun g w vals hs h0 htg ha => ?_⟩
  refine (body_okF k hf hb hn hown (h hs.good) hs h0 htg ha).mono fun e w' => ?_
  rintro ⟨g', s', a', v, r, rfl, h1, h2, rfl, h3, h4⟩
  have hlen : bs'.length ≤ g'.σ.length := by rw [h1.sto.len]; exact h3.short
  obtain ⟨g2, h5, h6, h7⟩ : ∃ g2, Sim ⟨w, g⟩ g2 (endS s' bs') a' w' ∧ g2.imm = g'.imm ∧ g2.σ = g'.σ.take bs'.length := by
    obtain ⟨g2, h5⟩ := h1.le' h3
    exact ⟨g2, h5⟩
  refine ⟨{ g2 with own := fun p => match p with | .tmp _ => none | q => g2.own q }, v, rfl, ?_, h5.callee, ?_, fun t => rfl⟩
  · rcases h4 with h4 | h4
    · have : g2.σ = g'.σ := by rw [h7, take_length_eq (by rw [h1.sto.len]; exact h4)]
      show Rep g2.imm g2.σ r v
      rw [h6, this]; exact h2
    · show Rep g2.imm g2.σ r v
      rw [h6, h7]; exact h2.under _ h4
  · exact { h5.ext with
      imm := h5.ext.imm
      immNew := h5.ext.immNew
      mineσ := h5.ext.mineσ
      mineOwn := fun p k hk => by
        cases p with
        | tmp t => cases hk
        | cell b o => exact h5.ext.mineOwn _ k hk }
theorem raw_of_body {P : Program} {f : FuncId} {fn : Func} {c : Code} {args : List AV} {bs bs' : List (List AV)} {res : AV} (hf : P.funcs[f]? = some fn) (hname : (fn.name == "runtime.NumGoroutine") = false) (hb : fn.body = some c)
    (hn : args.length ≤ fn.ntmps) (hown : args.all (fun x => !x.owns) = true)
    (h : Good bs → AWp P c (Ret P fn fun r s => r = res ∧ s.Le (endS s bs') ∧ (bs'.length = s.blocks.length ∨ res.under bs'.length = true)) (start fn.ntmps bs.length args bs)) : Raw P f args bs res bs' := raw_of_bodyF [] hf hname hb hn hown h
end Go.Abs
set_option linter.unusedVariables false
set_option linter.unusedSimpArgs false
namespace Go.Abs
open Go
def AState.upd (s : AState) (d : Nat) (y : AV) (m : Option Place) : AState :=
  { s with tmps := fun t => if t = d then y else s.tmps t, loans := fun t => if t = d then m else s.loans t }
def tmpsOf (xs : List Operand) : List Nat := xs.filterMap fun | .tmp t => some t | _ => none
def usesOp : Op → List Nat
  | .call c => tmpsOf ((match c.callee with | .value f => [f] | .invoke r _ => [r] | .builtin _ => []) ++ c.args.toList)
  | .build _ ps | .buildSlice _ _ ps => tmpsOf (ps.toList.map (·.2))
  | .makeFunc _ first captured => tmpsOf (first.toList ++ captured.toList)
  | .move x | .assign x | .box _ x | .load _ x | .nilCheck x | .unOp _ _ x | .convert _ _ x | .makeInterface _ x | .fieldAddr _ x _ | .field _ x _ | .extract x _ => tmpsOf [x]
  | .pick c a b => tmpsOf [c, a, b]
  | .store _ a v | .makeSlice _ a v | .binOp _ _ a v _ | .indexAddr _ a v | .index _ a v => tmpsOf [a, v]
  | .slice _ x l h m => tmpsOf (x :: (l.toList ++ h.toList ++ m.toList))
  | _ => []
theorem mem_tmpsOf {xs : List Operand} {t : Nat} (h : Operand.tmp t ∈ xs) : t ∈ tmpsOf xs := List.mem_filterMap.2 ⟨_, h, rfl⟩
section
variable (s : AState) (d : Nat) (y : AV) (m : Option Place)
theorem ev_upd {x : Operand} (h : x ≠ .tmp d) : (s.upd d y m).ev x = s.ev x := by
  cases x with
  | tmp t =>
    show (if t = d then y else s.tmps t) = s.tmps t
    rw [if_neg (fun e => h (by rw [e]))]
  | _ => rfl
theorem look_upd {x : Operand} (h : x ≠ .tmp d) : (s.upd d y m).look x = s.look x := by
  unfold AState.look; rw [ev_upd s d y m h]
theorem get_upd {t : Nat} (h : t ≠ d) : (s.upd d y m).get t = s.get t := by
  show (if t = d then y else s.tmps t) = s.tmps t
  rw [if_neg h]
def AState.free (s : AState) (d : Nat) : Prop := ∀ t, s.loans t ≠ some (.tmp d)
theorem at_upd {p : Place} (h : p ≠ .tmp d) : (s.upd d y m).at p = s.at p := by
  cases p with
  | tmp t => exact get_upd s d y m (fun e => h (by rw [e]))
  | cell b o => rfl
theorem owner_upd {t : Nat} (h : t ≠ d) (hf : s.free d) : (s.upd d y m).owner t = s.owner t := by
  unfold AState.owner
  rw [get_upd s d y m h]
  have hl : (s.upd d y m).loans t = s.loans t := by
    show (if t = d then m else s.loans t) = _
    rw [if_neg h]
  rw [hl]
  split
  · rfl
  · cases hp : s.loans t with
    | none => rfl
    | some p =>
      simp only
      rw [at_upd s d y m (fun e => hf t (by rw [hp, e]))]
theorem degrade_upd {p : Place} (h : p ≠ .tmp d) : (s.upd d y m).degrade p = (s.degrade p).upd d y m := by
  cases p with
  | tmp t =>
    have ht : t ≠ d := fun e => h (by rw [e])
    simp only [AState.degrade, AState.upd, AState.mk.injEq, and_true, true_and]
    funext u
    by_cases e : u = t
    · subst e; simp [ht]
    · simp [e]
  | cell b o => rfl
theorem owner_place {t : Nat} {p : Place} (h : s.owner t = some p) : p = .tmp t ∨ s.loans t = some p := by
  unfold AState.owner at h
  split at h
  · cases h; exact .inl rfl
  · split at h
    · rename_i q hq
      split at h
      · cases h; exact .inr hq
      · cases h
    · cases h
theorem takeV_upd {x : Operand} (h : x ≠ .tmp d) (hf : s.free d) : (s.upd d y m).takeV x = s.takeV x := by
  cases x with
  | tmp t =>
    have ht : t ≠ d := fun e => h (by rw [e])
    simp only [AState.takeV, owner_upd s d y m ht hf, get_upd s d y m ht]
    cases ho : s.owner t with
    | none => rfl
    | some p =>
      simp only
      refine at_upd s d y m fun e => ?_
      rcases owner_place s ho with h1 | h1
      · rw [e] at h1; cases h1; exact ht rfl
      · exact hf t (by rw [h1, e])
  | _ => rfl
theorem takeS_upd {x : Operand} (h : x ≠ .tmp d) (hf : s.free d) : (s.upd d y m).takeS x = (s.takeS x).upd d y m := by
  cases x with
  | tmp t =>
    have ht : t ≠ d := fun e => h (by rw [e])
    simp only [AState.takeS, owner_upd s d y m ht hf]
    cases ho : s.owner t with
    | none => rfl
    | some p =>
      simp only
      refine degrade_upd s d y m fun e => ?_
      rcases owner_place s ho with h1 | h1
      · rw [e] at h1; cases h1; exact ht rfl
      · exact hf t (by rw [h1, e])
  | _ => rfl
def notCell (m : Option Place) : Prop := ∀ b o, m ≠ some (.cell b o)
theorem setCell_upd (b o : Nat) (x : AV) (hm : ∀ o, m ≠ some (.cell b o)) : (s.upd d y m).setCell b o x = (s.setCell b o x).upd d y m := by
  simp only [AState.setCell, AState.upd, AState.mk.injEq, and_true, true_and]
  funext t
  by_cases e : t = d
  · subst e; simp [hm o]
  · simp [e]
theorem setCells_upd (b : Nat) (hm : ∀ o, m ≠ some (.cell b o)) : ∀ (xs : List AV) (o : Nat) (s : AState), (s.upd d y m).setCells b o xs = (s.setCells b o xs).upd d y m
  | [], o, s => rfl
  | x :: xs, o, s => by
    simp only [AState.setCells]
    rw [setCell_upd s d y m b o x hm]
    exact setCells_upd b hm xs (o + 1) _
theorem push_upd (blk : List AV) : (s.upd d y m).push blk = (s.push blk).upd d y m := rfl
theorem put_upd {e : Nat} (x : AV) (he : e ≠ d) (hm : m ≠ some (.tmp e)) : (s.upd d y m).put e x = (s.put e x).upd d y m := by
  have hn : (s.upd d y m).n = s.n := rfl
  unfold AState.put
  rw [hn]
  split
  · simp only [AState.upd, AState.mk.injEq, and_true, true_and]
    constructor
    · funext t
      by_cases h1 : t = e
      · subst h1; simp [he]
      · simp [h1]
    · funext t
      by_cases h1 : t = d
      · subst h1; simp [Ne.symm he, hm]
      · simp [h1]
  · rfl
theorem putL_upd {e : Nat} (x : AV) (l : Option Place) (he : e ≠ d) (hm : m ≠ some (.tmp e)) : (s.upd d y m).putL e x l = (s.putL e x l).upd d y m := by
  unfold AState.putL
  cases l with
  | none => exact put_upd s d y m x he hm
  | some p =>
    have hn : (s.upd d y m).n = s.n := rfl
    simp only [hn]
    split
    · exact put_upd s d y m x he hm
    · rw [put_upd s d y m x he hm]
      simp only [AState.upd, AState.mk.injEq, and_true, true_and]
      funext t
      by_cases h1 : t = e
      · subst h1; simp [he]
      · simp [h1]
theorem putO_upd {e : Option Nat} (x : AV) (he : ∀ k, e = some k → k ≠ d ∧ m ≠ some (.tmp k)) : (s.upd d y m).putO e x = (s.putO e x).upd d y m := by
  cases e with
  | none => rfl
  | some k => exact put_upd s d y m x (he k rfl).1 (he k rfl).2
theorem put_eq_upd {x : AV} (hd : d < s.n) (hf : s.free d) : s.put d x = s.upd d x none := by
  unfold AState.put
  rw [if_pos hd]
  simp only [AState.upd, AState.mk.injEq, and_true, true_and]
  funext t
  by_cases h1 : t = d
  · simp [h1]
  · simp [h1, hf t]
theorem putL_eq_upd {x : AV} {l : Option Place} (hd : d < s.n) (hf : s.free d) (hl : l ≠ some (.tmp d)) : s.putL d x l = s.upd d x l := by
  unfold AState.putL
  cases l with
  | none => exact put_eq_upd s d hd hf
  | some p =>
    have hne : ¬ (p = .tmp d ∨ s.n ≤ d) := fun h => by
      rcases h with h | h
      · exact hl (by rw [h])
      · omega
    simp only [if_neg hne]
    rw [put_eq_upd s d hd hf]
    simp only [AState.upd, AState.mk.injEq, and_true, true_and]
    funext t
    by_cases h1 : t = d
    · simp [h1]
    · simp [h1]
end
def Res.upd (r : Res) (d : Nat) (y : AV) (m : Option Place) : Res := { r with st := r.st.upd d y m }
theorem ne_of_notin {xs : List Operand} {d : Nat} (h : d ∉ tmpsOf xs) {x : Operand} (hx : x ∈ xs) : x ≠ .tmp d := fun e => h (mem_tmpsOf (by rw [← e]; exact hx))
theorem map_look_upd (s : AState) (d : Nat) (y : AV) (m : Option Place) {xs : List Operand} (h : d ∉ tmpsOf xs) (f : AV → AV) : (xs.map fun x => f ((s.upd d y m).look x)) = xs.map fun x => f (s.look x) := by
  apply List.map_congr_left
  intro x hx
  rw [look_upd s d y m (ne_of_notin h hx)]
def isStore : Op → Bool
  | .store .. => true
  | _ => false
def okM (op : Op) (s : AState) (m : Option Place) : Prop := ∀ t x y, op = .store t x y → ∀ b off, s.ev x = .mptr b off → ∀ o, m ≠ some (.cell b o)
theorem absOp_upd (P : Program) (s : AState) (d : Nat) (y : AV) (m : Option Place) (op : Op) (hm : okM op s m) (hf : s.free d) (h : d ∉ usesOp op) :
    absOp P (s.upd d y m) op = (absOp P s op).map fun r => r.upd d y m := by
  have hb : (s.upd d y m).blocks = s.blocks := rfl
  cases op <;> simp only [usesOp] at h <;> simp only [absOp, Option.map_none, Option.map_some]
  case move x =>
    have hx := ne_of_notin h (List.mem_cons_self ..)
    simp only [resMove, Res.upd, look_upd s d y m hx]
    congr 2
    cases x with
    | tmp t =>
      have ht : t ≠ d := fun e => hx (by rw [e])
      simp only [AState.loanOf, get_upd s d y m ht]
    | _ => rfl
  case assign x =>
    have hx := ne_of_notin h (List.mem_cons_self ..)
    simp only [resAssign, Res.upd, takeV_upd s d y m hx hf, takeS_upd s d y m hx hf]
  case pick c a b =>
    simp only [resPick, Res.upd, look_upd s d y m (ne_of_notin h (x := c) (by simp)), look_upd s d y m (ne_of_notin h (x := a) (by simp)), look_upd s d y m (ne_of_notin h (x := b) (by simp))]
  case alloc t =>
    unfold resAlloc
    split
    · split
      · simp only [resNew, hb, push_upd, Option.map_some, Res.upd]
      · rfl
    · rfl
  case box t x =>
    have hx := ne_of_notin h (List.mem_cons_self ..)
    simp only [resBox, resNew, Res.upd, look_upd s d y m hx, hb, push_upd]
  case build t parts =>
    have hp : (parts.toList.map fun q => (q.1, (s.upd d y m).look q.2)) = parts.toList.map fun q => (q.1, s.look q.2) := by
      apply List.map_congr_left
      intro q hq
      rw [look_upd s d y m (ne_of_notin h (List.mem_map.2 ⟨q, hq, rfl⟩))]
    unfold resBuild
    rw [hp]
    split
    · split
      · split <;> rfl
      · rfl
    · split
      · split <;> rfl
      · rfl
    · rfl
  case buildSlice t n parts =>
    have hp : ∀ q, q ∈ parts.toList → (s.upd d y m).look q.2 = s.look q.2 := fun q hq => look_upd s d y m (ne_of_notin h (List.mem_map.2 ⟨q, hq, rfl⟩))
    have hp1 : (parts.toList.map fun q => ((s.upd d y m).look q.2).norm.cells) = parts.toList.map fun q => (s.look q.2).norm.cells := List.map_congr_left fun q hq => by rw [hp q hq]
    have hp2 : (parts.toList.all fun q => ((s.upd d y m).look q.2).solid) = parts.toList.all fun q => (s.look q.2).solid := by
      rw [Bool.eq_iff_iff, List.all_eq_true, List.all_eq_true]
      exact ⟨fun h q hq => by rw [← hp q hq]; exact h q hq, fun h q hq => by rw [hp q hq]; exact h q hq⟩
    unfold resBuildSlice
    rw [hp1, hp2]
    split
    · split
      · split <;> rfl
      · rfl
    · rfl
  case makeSlice t l c =>
    have hx := ne_of_notin h (x := l) (by simp)
    have hz := ne_of_notin h (x := c) (by simp)
    unfold resMk
    split
    · unfold resMake
      rw [look_upd s d y m hx, look_upd s d y m hz]
      split
      · split
        · split
          · split <;> rfl
          · rfl
        · rfl
      · rfl
    · unfold resMakeM
      rw [look_upd s d y m hx, look_upd s d y m hz]
      split
      · split
        · split
          · split
            · simp only [hb, push_upd, Option.map_some, Res.upd]
            · rfl
          · rfl
        · rfl
      · rfl
  case load t x =>
    have hx := ne_of_notin h (List.mem_cons_self ..)
    unfold resLoad
    rw [look_upd s d y m hx, hb]
    split
    · split <;> rfl
    · split <;> rfl
    · rfl
  case store t x z =>
    have hx := ne_of_notin h (x := x) (by simp)
    have hz := ne_of_notin h (x := z) (by simp)
    unfold resStore
    rw [ev_upd s d y m hx, takeV_upd s d y m hz hf, takeS_upd s d y m hz hf, hb]
    split
    · rename_i b off i hev hi
      have hm := hm t x z rfl b off hev
      split
      · simp only [Option.map_some, Res.upd, setCell_upd _ d y m _ _ _ hm]
      · simp only [Option.map_some, Res.upd, setCells_upd d y m _ hm]
    · rfl
  case nilCheck x =>
    unfold resNilCheck
    rw [look_upd s d y m (ne_of_notin h (List.mem_cons_self ..))]
    split <;> rfl
  case binOp op t x z t' =>
    have hx := look_upd s d y m (ne_of_notin h (x := x) (by simp))
    have hz := look_upd s d y m (ne_of_notin h (x := z) (by simp))
    unfold resBn
    rw [hz]
    split
    · unfold resBinN
      rw [hx]
      split
      · split <;> rfl
      · split
        · split <;> rfl
        · rfl
      · rfl
    · unfold resBin
      rw [hx, hz]
      split <;> rfl
  case unOp op t x =>
    unfold resUn
    rw [look_upd s d y m (ne_of_notin h (List.mem_cons_self ..))]
    split <;> rfl
  case convert src dst x =>
    unfold resConv
    rw [look_upd s d y m (ne_of_notin h (List.mem_cons_self ..))]
    split <;> first | rfl | (split <;> rfl)
  case makeInterface t x =>
    unfold resIface
    rw [look_upd s d y m (ne_of_notin h (List.mem_cons_self ..))]
    split <;> rfl
  case makeFunc f first captured =>
    have h1 : (first.toList.map (s.upd d y m).look) = first.toList.map s.look := List.map_congr_left fun x hx => look_upd s d y m (ne_of_notin h (List.mem_append_left _ hx))
    have h2 : (captured.toList.map (s.upd d y m).look) = captured.toList.map s.look := List.map_congr_left fun x hx => look_upd s d y m (ne_of_notin h (List.mem_append_right _ hx))
    simp only [resFunc, Res.upd, h1, h2]
  case slice t x lo hi mx =>
    cases mx with
    | some z =>
      have hbd : ∀ (D : Int) (z : Option Operand), (∀ q, z = some q → q ≠ .tmp d) → bound (s.upd d y m) D z = bound s D z := fun D z hz => by
        cases z with
        | none => rfl
        | some q => simp only [bound, look_upd s d y m (hz q rfl)]
      have h1 := ne_of_notin h (List.mem_cons_self ..)
      have hlo : ∀ q, lo = some q → q ≠ .tmp d := fun q hq => ne_of_notin h (by subst hq; simp)
      have hhi : ∀ q, hi = some q → q ≠ .tmp d := fun q hq => ne_of_notin h (by subst hq; simp)
      have hzz : ∀ q, some z = some q → q ≠ .tmp d := fun q hq => ne_of_notin h (by cases hq; simp)
      simp only
      unfold resSlice3
      rw [look_upd s d y m h1, hbd _ lo hlo, hbd _ hi hhi, hbd _ (some z) hzz]
      split
      · split
        · split <;> rfl
        · rfl
      · rfl
    | none =>
      have hbd : ∀ (D : Int) (z : Option Operand), (∀ q, z = some q → q ≠ .tmp d) → bound (s.upd d y m) D z = bound s D z := fun D z hz => by
        cases z with
        | none => rfl
        | some q => simp only [bound, look_upd s d y m (hz q rfl)]
      have h1 := ne_of_notin h (List.mem_cons_self ..)
      have hlo : ∀ q, lo = some q → q ≠ .tmp d := fun q hq => ne_of_notin h (by subst hq; simp)
      have hhi : ∀ q, hi = some q → q ≠ .tmp d := fun q hq => ne_of_notin h (by subst hq; simp)
      simp only
      unfold resSlice
      rw [look_upd s d y m h1]
      split
      · split
        · rw [hbd _ lo hlo, hbd _ hi hhi]
          split <;> rfl
        · rfl
      · split
        · rw [hbd _ lo hlo, hbd _ hi hhi]
          split <;> rfl
        · rfl
      · rfl
  case fieldAddr t x f =>
    unfold resFieldAddr
    rw [look_upd s d y m (ne_of_notin h (List.mem_cons_self ..))]
    split
    · split
      · split <;> rfl
      · rfl
    · rfl
  case indexAddr t x i =>
    unfold resIx
    rw [look_upd s d y m (ne_of_notin h (x := x) (by simp))]
    split
    · unfold resIxM
      rw [look_upd s d y m (ne_of_notin h (x := x) (by simp)), look_upd s d y m (ne_of_notin h (x := i) (by simp))]
      split
      · split <;> rfl
      · rfl
    · unfold resIndexAddr
      rw [look_upd s d y m (ne_of_notin h (x := x) (by simp)), look_upd s d y m (ne_of_notin h (x := i) (by simp))]
      split
      · split <;> rfl
      · rfl
  case index t x i =>
    have hx := look_upd s d y m (ne_of_notin h (x := x) (by simp))
    have hi := look_upd s d y m (ne_of_notin h (x := i) (by simp))
    unfold resIdx
    split
    · unfold resIndexA
      rw [hx, hi]
      split
      · split <;> rfl
      · rfl
    · unfold resIndex
      rw [hx, hi]
      split
      · split <;> rfl
      · split <;> rfl
      · rfl
  case field t x f =>
    unfold resField
    rw [look_upd s d y m (ne_of_notin h (List.mem_cons_self ..))]
    split
    · split
      · split <;> rfl
      · rfl
    · rfl
  case extract x i =>
    unfold resExtract
    rw [look_upd s d y m (ne_of_notin h (List.mem_cons_self ..))]
    split
    · split <;> rfl
    · rfl
  case call c =>
    obtain ⟨callee, args, argTypes⟩ := c
    cases callee with
    | value f => rfl
    | invoke r n => rfl
    | builtin b =>
      simp only [List.nil_append] at h
      simp only [absBuiltin]
      split
      · rename_i x hx
        rw [hx] at h
        unfold resLn
        rw [look_upd s d y m (ne_of_notin h (List.mem_cons_self ..))]
        split
        · unfold resLenM
          rw [look_upd s d y m (ne_of_notin h (List.mem_cons_self ..))]
          split
          · split <;> rfl
          · rfl
        · unfold resLen
          rw [look_upd s d y m (ne_of_notin h (List.mem_cons_self ..))]
          split
          · split
            · rfl
            · split <;> rfl
            · rfl
          · rfl
      · rename_i x z hx
        rw [hx] at h
        have h1 := ne_of_notin h (x := x) (by simp)
        have h2 := ne_of_notin h (x := z) (by simp)
        unfold resApp
        rw [takeV_upd s d y m h1 hf]
        split
        · unfold resAppE
          have hcell : ∀ D sz v, appCells (s.upd d y m) D sz v = appCells s D sz v := fun D sz v => by unfold appCells; rw [hb]
          rw [look_upd s d y m h1, look_upd s d y m h2]
          split
          · split
            · split
              · rw [hcell]
                split
                · simp only [hb, push_upd, Option.map_some, Res.upd]
                · rfl
              · rfl
            · rfl
          · rfl
        · unfold resAppQ
          rw [takeV_upd s d y m h1 hf, takeS_upd s d y m h1 hf, look_upd s d y m h2]
          split
          · split
            · split
              · split <;> rfl
              · rfl
            · rfl
          · rfl
        · unfold resAppend
          rw [takeV_upd s d y m h1 hf, takeS_upd s d y m h1 hf, look_upd s d y m h2]
          split
          · split
            · split
              · split <;> rfl
              · rfl
            · rfl
          · rfl
      · rename_i x z hx
        rw [hx] at h
        have h1 := ne_of_notin h (x := x) (by simp)
        have h2 := ne_of_notin h (x := z) (by simp)
        unfold resMM
        rw [look_upd s d y m h1, look_upd s d y m h2]
        split
        · split <;> rfl
        · rfl
      · rename_i x z hx
        rw [hx] at h
        have h1 := ne_of_notin h (x := x) (by simp)
        have h2 := ne_of_notin h (x := z) (by simp)
        unfold resMM
        rw [look_upd s d y m h1, look_upd s d y m h2]
        split
        · split <;> rfl
        · rfl
      · rfl
end Go.Abs
set_option linter.unusedVariables false
set_option linter.unusedSimpArgs false
namespace Go.Abs
open Go
def Gd (B : List Nat) (s : AState) : Op → Prop
  | .store _ x y => B = [] ∨ ((∃ b off, s.ev x = .mptr b off ∧ b ∈ B) ∧ ∀ t, y = .tmp t → s.owner t = none)
  | .load _ x => B = [] ∨ ∀ b off, s.look x = .mptr b off → b ∉ B
  | .assign x => B = [] ∨ ∀ t, x = .tmp t → s.owner t = none
  | _ => True
theorem gd_upd {B : List Nat} {s : AState} {d : Nat} {y : AV} {m : Option Place} {op : Op} (hf : s.free d) (h : d ∉ usesOp op) : Gd B (s.upd d y m) op ↔ Gd B s op := by
  cases op <;> simp only [Gd, usesOp] at h ⊢
  case store t x z =>
    rw [ev_upd s d y m (ne_of_notin h (x := x) (by simp))]
    have hz := ne_of_notin h (x := z) (by simp)
    constructor
    · rintro (h1 | ⟨h1, h2⟩)
      · exact .inl h1
      · exact .inr ⟨h1, fun t ht => by rw [← owner_upd s d y m (fun e => hz (by rw [ht, e])) hf]; exact h2 t ht⟩
    · rintro (h1 | ⟨h1, h2⟩)
      · exact .inl h1
      · exact .inr ⟨h1, fun t ht => by rw [owner_upd s d y m (fun e => hz (by rw [ht, e])) hf]; exact h2 t ht⟩
  case load t x => rw [look_upd s d y m (ne_of_notin h (x := x) (by simp))]
  case assign z =>
    have hz := ne_of_notin h (x := z) (by simp)
    constructor
    · rintro (h1 | h2)
      · exact .inl h1
      · exact .inr fun t ht => by rw [← owner_upd s d y m (fun e => hz (by rw [ht, e])) hf]; exact h2 t ht
    · rintro (h1 | h2)
      · exact .inl h1
      · exact .inr fun t ht => by rw [owner_upd s d y m (fun e => hz (by rw [ht, e])) hf]; exact h2 t ht
def isPut : Op → Bool
  | .store .. | .assign _ => true
  | _ => false
def okL (B : List Nat) (op : Op) (m : Option Place) : Prop := notCell m ∨ isStore op = false ∨ (B ≠ [] ∧ ∀ b o, m = some (.cell b o) → b ∉ B)
theorem okL.okM {B : List Nat} {op : Op} {s : AState} {m : Option Place} (hm : okL B op m) (hg : Gd B s op) : okM op s m := fun t x y e b off hev o hmo => by
  subst e
  rcases hm with h | h | ⟨h1, h2⟩
  · exact h b o hmo
  · simp [isStore] at h
  · rcases hg with h3 | ⟨⟨b', off', h4, h5⟩, _⟩
    · exact h1 h3
    · rw [hev] at h4; cases h4
      exact h2 b o hmo h5
def StepD (P : Program) (B : List Nat) (o : Oper) (s s' : AState) : Prop :=
  (∃ c x f first captured res, o.op = .call c ∧ c.callee = .value x ∧ s.look x = .fn (.func f) first captured ∧ Pure P f (callArgs s first captured c.args) res ∧
    AV.flatL (callArgs s first captured c.args) = true ∧ res.owns = false ∧ s' = s.putO o.dst res) ∨
  (∃ r, absOp P s o.op = some r ∧ r.side ∧ Gd B s o.op ∧ s' = s.putR o.dst r)
def GStep (P : Program) (B : List Nat) (ops : Array Oper) (o : Oper) (s s' : AState) : Prop :=
  match o.guard with
  | none => StepD P B o s s'
  | some (j, want) => ∃ g, (ops[j]?).bind (·.dst) = some g ∧
    ((∃ b, s.get g = .bool b ∧ ((b = want ∧ StepD P B o s s') ∨ (b = !want ∧ s' = s.putO o.dst (.tup [])))) ∨ (s.get g = .tup [] ∧ s' = s.putO o.dst (.tup [])))
def usesG (ops : Array Oper) (o : Oper) : List Nat :=
  usesOp o.op ++ match o.guard with
    | some (j, _) => ((ops[j]?).bind (·.dst)).toList
    | none => []
theorem callArgs_upd (s : AState) (d : Nat) (y : AV) (m : Option Place) (first captured : List AV) {args : Array Operand} (h : d ∉ tmpsOf args.toList) :
    callArgs (s.upd d y m) first captured args = callArgs s first captured args := by
  unfold callArgs; rw [map_look_upd s d y m h]
theorem usesOp_call {c : Call} {x : Operand} (hc : c.callee = .value x) : usesOp (.call c) = tmpsOf (x :: c.args.toList) := by
  simp [usesOp, hc]
theorem upd_n (s : AState) (d : Nat) (y : AV) (m : Option Place) : (s.upd d y m).n = s.n := rfl
theorem stepD_upd {P : Program} {B : List Nat} {o : Oper} {s : AState} {d : Nat} {y : AV} {m : Option Place} (hm : okL B o.op m) (hf : s.free d) (h : d ∉ usesOp o.op)
    (hd : ∀ e, o.dst = some e → e ≠ d ∧ m ≠ some (.tmp e)) {s2 : AState} : StepD P B o (s.upd d y m) s2 ↔ ∃ s', StepD P B o s s' ∧ s2 = s'.upd d y m := by
  have habs := fun hg : Gd B s o.op => absOp_upd P s d y m o.op (hm.okM hg) hf h
  have hput : ∀ r : Res, (s.upd d y m).putR o.dst (r.upd d y m) = (s.putR o.dst r).upd d y m := fun r => by
    cases hdst : o.dst with
    | none => rfl
    | some e => exact putL_upd r.st d y m r.val r.loan (hd e hdst).1 (hd e hdst).2
  constructor
  · rintro (⟨c, x, f, first, captured, res, h1, h2, h3, h4, h5, h6, rfl⟩ | ⟨r, h1, h2, hgd, rfl⟩)
    · rw [h1, usesOp_call h2] at h
      have hx := ne_of_notin h (List.mem_cons_self ..)
      have ha : d ∉ tmpsOf c.args.toList := fun hmem => h (by simp only [tmpsOf, List.mem_filterMap] at hmem ⊢; obtain ⟨z, hz, he⟩ := hmem; exact ⟨z, List.mem_cons_of_mem _ hz, he⟩)
      rw [look_upd s d y m hx] at h3
      rw [callArgs_upd s d y m _ _ ha] at h4 h5
      exact ⟨s.putO o.dst res, .inl ⟨c, x, f, first, captured, res, h1, h2, h3, h4, h5, h6, rfl⟩, putO_upd s d y m res (fun k hk => hd k hk)⟩
    · have hgd' := (gd_upd hf h).1 hgd
      rw [habs hgd'] at h1
      cases hr : absOp P s o.op with
      | none => rw [hr] at h1; cases h1
      | some r' =>
        rw [hr] at h1; cases h1
        exact ⟨s.putR o.dst r', .inr ⟨r', hr, h2, hgd', rfl⟩, hput r'⟩
  · rintro ⟨s', ⟨c, x, f, first, captured, res, h1, h2, h3, h4, h5, h6, rfl⟩ | ⟨r, h1, h2, hgd, rfl⟩, rfl⟩
    · have hh := h
      rw [h1, usesOp_call h2] at h
      have hx := ne_of_notin h (List.mem_cons_self ..)
      have ha : d ∉ tmpsOf c.args.toList := fun hmem => h (by simp only [tmpsOf, List.mem_filterMap] at hmem ⊢; obtain ⟨z, hz, he⟩ := hmem; exact ⟨z, List.mem_cons_of_mem _ hz, he⟩)
      exact .inl ⟨c, x, f, first, captured, res, h1, h2, by rw [look_upd s d y m hx]; exact h3, by rw [callArgs_upd s d y m _ _ ha]; exact h4, by rw [callArgs_upd s d y m _ _ ha]; exact h5, h6,
        (putO_upd s d y m res (fun k hk => hd k hk)).symm⟩
    · exact .inr ⟨r.upd d y m, by rw [habs hgd, h1]; rfl, h2, (gd_upd hf h).2 hgd, (hput r).symm⟩
theorem gstep_upd {P : Program} {B : List Nat} {ops : Array Oper} {o : Oper} {s : AState} {d : Nat} {y : AV} {m : Option Place} (hm : okL B o.op m) (hf : s.free d) (h : d ∉ usesG ops o)
    (hd : ∀ e, o.dst = some e → e ≠ d ∧ m ≠ some (.tmp e)) {s2 : AState} : GStep P B ops o (s.upd d y m) s2 ↔ ∃ s', GStep P B ops o s s' ∧ s2 = s'.upd d y m := by
  have h1 : d ∉ usesOp o.op := fun hmem => h (List.mem_append_left _ hmem)
  unfold GStep
  cases hg : o.guard with
  | none => exact stepD_upd hm hf h1 hd
  | some q =>
    obtain ⟨j, want⟩ := q
    simp only
    have hskip := putO_upd s d y m (e := o.dst) (.tup []) (fun k hk => hd k hk)
    have hget : ∀ g, (ops[j]?).bind (·.dst) = some g → (s.upd d y m).get g = s.get g := fun g hgj =>
      get_upd s d y m (fun e => h (List.mem_append_right _ (by simp [hg, hgj, e])))
    constructor
    · rintro ⟨g, hgj, hh⟩
      rw [hget g hgj] at hh
      rcases hh with ⟨b, hb, ⟨hw, hs⟩ | ⟨hw, rfl⟩⟩ | ⟨hb, rfl⟩
      · obtain ⟨s', hs', rfl⟩ := (stepD_upd hm hf h1 hd).1 hs
        exact ⟨s', ⟨g, hgj, .inl ⟨b, hb, .inl ⟨hw, hs'⟩⟩⟩, rfl⟩
      · exact ⟨_, ⟨g, hgj, .inl ⟨b, hb, .inr ⟨hw, rfl⟩⟩⟩, hskip⟩
      · exact ⟨_, ⟨g, hgj, .inr ⟨hb, rfl⟩⟩, hskip⟩
    · rintro ⟨s', ⟨g, hgj, hh⟩, rfl⟩
      refine ⟨g, hgj, ?_⟩
      rw [hget g hgj]
      rcases hh with ⟨b, hb, ⟨hw, hs⟩ | ⟨hw, rfl⟩⟩ | ⟨hb, rfl⟩
      · exact .inl ⟨b, hb, .inl ⟨hw, (stepD_upd hm hf h1 hd).2 ⟨s', hs, rfl⟩⟩⟩
      · exact .inl ⟨b, hb, .inr ⟨hw, hskip.symm⟩⟩
      · exact .inr ⟨hb, hskip.symm⟩
def isA : Op → Bool
  | .pick .. | .build .. | .buildSlice .. | .nilCheck _ | .binOp .. | .unOp .. | .convert .. | .makeInterface .. | .makeFunc .. | .slice .. | .fieldAddr .. | .field .. | .indexAddr .. | .index .. | .extract .. => true
  | .call c => match c.callee with
    | .value _ => true
    | .builtin b => (match b with | .len | .min | .max => true | _ => false)
    | _ => false
  | _ => false
def isMove : Op → Bool
  | .move _ => true
  | _ => false
def isLoad : Op → Bool
  | .load .. => true
  | _ => false
def isNew : Op → Bool
  | .alloc _ | .box .. => true
  | _ => false
def srcs (ops : Array Oper) : List Nat := ops.toList.flatMap fun o => match o.op with | .move x => tmpsOf [x] | _ => []
theorem absOp_look {P : Program} {s s2 : AState} {op : Op} (hA : isA op = true) (h : ∀ x, (∀ t, x = .tmp t → t ∈ usesOp op) → s2.look x = s.look x) :
    absOp P s2 op = (absOp P s op).map (fun r => { r with st := s2 }) ∧ ∀ r, absOp P s op = some r → r.st = s ∧ r.loan = none ∧ True := by
  have hm : ∀ {xs : List Operand}, (∀ t, t ∈ tmpsOf xs → t ∈ usesOp op) → ∀ x, x ∈ xs → s2.look x = s.look x := fun hsub x hx => h x fun t e => hsub t (mem_tmpsOf (by rw [← e]; exact hx))
  cases op <;> simp only [isA, Bool.false_eq_true] at hA <;> simp only [usesOp] at hm <;> simp only [absOp]
  case pick c a b =>
    have e := hm (xs := [c, a, b]) (fun _ h => h)
    simp only [resPick, e c (by simp), e a (by simp), e b (by simp)]
    exact ⟨rfl, fun r hr => by cases hr; exact ⟨rfl, rfl, trivial⟩⟩
  case build t parts =>
    have e := hm (xs := parts.toList.map (·.2)) (fun _ h => h)
    have hp : (parts.toList.map fun q => (q.1, s2.look q.2)) = parts.toList.map fun q => (q.1, s.look q.2) := List.map_congr_left fun q hq => by rw [e q.2 (List.mem_map.2 ⟨q, hq, rfl⟩)]
    unfold resBuild
    rw [hp]
    split
    · split
      · split
        · exact ⟨rfl, fun r hr => by cases hr; exact ⟨rfl, rfl, trivial⟩⟩
        · exact ⟨rfl, fun r hr => by cases hr⟩
      · exact ⟨rfl, fun r hr => by cases hr⟩
    · split
      · split
        · exact ⟨rfl, fun r hr => by cases hr; exact ⟨rfl, rfl, trivial⟩⟩
        · exact ⟨rfl, fun r hr => by cases hr⟩
      · exact ⟨rfl, fun r hr => by cases hr⟩
    · exact ⟨rfl, fun r hr => by cases hr⟩
  case buildSlice t n parts =>
    have e := hm (xs := parts.toList.map (·.2)) (fun _ h => h)
    have hp : ∀ q, q ∈ parts.toList → s2.look q.2 = s.look q.2 := fun q hq => e q.2 (List.mem_map.2 ⟨q, hq, rfl⟩)
    have hp1 : (parts.toList.map fun q => (s2.look q.2).norm.cells) = parts.toList.map fun q => (s.look q.2).norm.cells := List.map_congr_left fun q hq => by rw [hp q hq]
    have hp2 : (parts.toList.all fun q => (s2.look q.2).solid) = parts.toList.all fun q => (s.look q.2).solid := by
      rw [Bool.eq_iff_iff, List.all_eq_true, List.all_eq_true]
      exact ⟨fun h q hq => by rw [← hp q hq]; exact h q hq, fun h q hq => by rw [hp q hq]; exact h q hq⟩
    unfold resBuildSlice
    rw [hp1, hp2]
    split
    · split
      · split
        · exact ⟨rfl, fun r hr => by cases hr; exact ⟨rfl, rfl, trivial⟩⟩
        · exact ⟨rfl, fun r hr => by cases hr⟩
      · exact ⟨rfl, fun r hr => by cases hr⟩
    · exact ⟨rfl, fun r hr => by cases hr⟩
  case nilCheck x =>
    unfold resNilCheck
    rw [hm (xs := [x]) (fun _ h => h) x (by simp)]
    split <;> first | exact ⟨rfl, fun r hr => by cases hr; exact ⟨rfl, rfl, trivial⟩⟩ | exact ⟨rfl, fun r hr => by cases hr⟩
  case binOp op t x z t' =>
    have e := hm (xs := [x, z]) (fun _ h => h)
    have hx := e x (by simp)
    have hz := e z (by simp)
    unfold resBn
    rw [hz]
    split
    · unfold resBinN
      rw [hx]
      split
      · split <;> first | exact ⟨rfl, fun r hr => by cases hr; exact ⟨rfl, rfl, trivial⟩⟩ | exact ⟨rfl, fun r hr => by cases hr⟩
      · split
        · split <;> first | exact ⟨rfl, fun r hr => by cases hr; exact ⟨rfl, rfl, trivial⟩⟩ | exact ⟨rfl, fun r hr => by cases hr⟩
        · exact ⟨rfl, fun r hr => by cases hr⟩
      · exact ⟨rfl, fun r hr => by cases hr⟩
    · unfold resBin
      rw [hx, hz]
      split <;> first | exact ⟨rfl, fun r hr => by cases hr; exact ⟨rfl, rfl, trivial⟩⟩ | exact ⟨rfl, fun r hr => by cases hr⟩
  case unOp op t x =>
    unfold resUn
    rw [hm (xs := [x]) (fun _ h => h) x (by simp)]
    split <;> first | exact ⟨rfl, fun r hr => by cases hr; exact ⟨rfl, rfl, trivial⟩⟩ | exact ⟨rfl, fun r hr => by cases hr⟩
  case convert src dst x =>
    unfold resConv
    rw [hm (xs := [x]) (fun _ h => h) x (by simp)]
    split <;> first | exact ⟨rfl, fun r hr => by cases hr; exact ⟨rfl, rfl, trivial⟩⟩ | exact ⟨rfl, fun r hr => by cases hr⟩ |
      (split <;> first | exact ⟨rfl, fun r hr => by cases hr; exact ⟨rfl, rfl, trivial⟩⟩ | exact ⟨rfl, fun r hr => by cases hr⟩)
  case makeInterface t x =>
    unfold resIface
    rw [hm (xs := [x]) (fun _ h => h) x (by simp)]
    split <;> first | exact ⟨rfl, fun r hr => by cases hr; exact ⟨rfl, rfl, trivial⟩⟩ | exact ⟨rfl, fun r hr => by cases hr⟩
  case makeFunc f first captured =>
    have e := hm (xs := first.toList ++ captured.toList) (fun _ h => h)
    have h1 : (first.toList.map s2.look) = first.toList.map s.look := List.map_congr_left fun x hx => e x (List.mem_append_left _ hx)
    have h2 : (captured.toList.map s2.look) = captured.toList.map s.look := List.map_congr_left fun x hx => e x (List.mem_append_right _ hx)
    simp only [resFunc, h1, h2]
    exact ⟨rfl, fun r hr => by cases hr; exact ⟨rfl, rfl, trivial⟩⟩
  case slice t x lo hi mx =>
    cases mx with
    | some z =>
      have e := hm (xs := x :: (lo.toList ++ hi.toList ++ (some z).toList)) (fun _ h => h)
      have hbd : ∀ (D : Int) (z : Option Operand), (∀ q, z = some q → s2.look q = s.look q) → bound s2 D z = bound s D z := fun D z hz => by
        cases z with
        | none => rfl
        | some q => simp only [bound, hz q rfl]
      simp only
      unfold resSlice3
      rw [e x (List.mem_cons_self ..), hbd _ lo (fun q hq => e q (by subst hq; simp)), hbd _ hi (fun q hq => e q (by subst hq; simp)), hbd _ (some z) (fun q hq => e q (by cases hq; simp))]
      split
      · split
        · split <;> first | exact ⟨rfl, fun r hr => by cases hr; exact ⟨rfl, rfl, trivial⟩⟩ | exact ⟨rfl, fun r hr => by cases hr⟩
        · exact ⟨rfl, fun r hr => by cases hr⟩
      · exact ⟨rfl, fun r hr => by cases hr⟩
    | none =>
      have e := hm (xs := x :: (lo.toList ++ hi.toList ++ (none : Option Operand).toList)) (fun _ h => h)
      have hbd : ∀ (D : Int) (z : Option Operand), (∀ q, z = some q → s2.look q = s.look q) → bound s2 D z = bound s D z := fun D z hz => by
        cases z with
        | none => rfl
        | some q => simp only [bound, hz q rfl]
      simp only
      unfold resSlice
      rw [e x (List.mem_cons_self ..)]
      split
      · split
        · rw [hbd _ lo (fun q hq => e q (by subst hq; simp)), hbd _ hi (fun q hq => e q (by subst hq; simp))]
          split <;> first | exact ⟨rfl, fun r hr => by cases hr; exact ⟨rfl, rfl, trivial⟩⟩ | exact ⟨rfl, fun r hr => by cases hr⟩
        · exact ⟨rfl, fun r hr => by cases hr⟩
      · split
        · rw [hbd _ lo (fun q hq => e q (by subst hq; simp)), hbd _ hi (fun q hq => e q (by subst hq; simp))]
          split <;> first | exact ⟨rfl, fun r hr => by cases hr; exact ⟨rfl, rfl, trivial⟩⟩ | exact ⟨rfl, fun r hr => by cases hr⟩
        · exact ⟨rfl, fun r hr => by cases hr⟩
      · exact ⟨rfl, fun r hr => by cases hr⟩
  case fieldAddr t x f =>
    unfold resFieldAddr
    rw [hm (xs := [x]) (fun _ h => h) x (by simp)]
    split
    · split
      · split <;> first | exact ⟨rfl, fun r hr => by cases hr; exact ⟨rfl, rfl, trivial⟩⟩ | exact ⟨rfl, fun r hr => by cases hr⟩
      · exact ⟨rfl, fun r hr => by cases hr⟩
    · exact ⟨rfl, fun r hr => by cases hr⟩
  case indexAddr t x i =>
    have e := hm (xs := [x, i]) (fun _ h => h)
    unfold resIx
    rw [e x (by simp)]
    split
    · unfold resIxM
      rw [e x (by simp), e i (by simp)]
      split
      · split <;> first | exact ⟨rfl, fun r hr => by cases hr; exact ⟨rfl, rfl, trivial⟩⟩ | exact ⟨rfl, fun r hr => by cases hr⟩
      · exact ⟨rfl, fun r hr => by cases hr⟩
    · unfold resIndexAddr
      rw [e x (by simp), e i (by simp)]
      split
      · split <;> first | exact ⟨rfl, fun r hr => by cases hr; exact ⟨rfl, rfl, trivial⟩⟩ | exact ⟨rfl, fun r hr => by cases hr⟩
      · exact ⟨rfl, fun r hr => by cases hr⟩
  case index t x i =>
    have e := hm (xs := [x, i]) (fun _ h => h)
    have hx := e x (by simp)
    have hi := e i (by simp)
    unfold resIdx
    split
    · unfold resIndexA
      rw [hx, hi]
      split
      · split <;> first | exact ⟨rfl, fun r hr => by cases hr; exact ⟨rfl, rfl, trivial⟩⟩ | exact ⟨rfl, fun r hr => by cases hr⟩
      · exact ⟨rfl, fun r hr => by cases hr⟩
    · unfold resIndex
      rw [hx, hi]
      split
      · split <;> first | exact ⟨rfl, fun r hr => by cases hr; exact ⟨rfl, rfl, trivial⟩⟩ | exact ⟨rfl, fun r hr => by cases hr⟩
      · split <;> first | exact ⟨rfl, fun r hr => by cases hr; exact ⟨rfl, rfl, trivial⟩⟩ | exact ⟨rfl, fun r hr => by cases hr⟩
      · exact ⟨rfl, fun r hr => by cases hr⟩
  case field t x f =>
    unfold resField
    rw [hm (xs := [x]) (fun _ h => h) x (by simp)]
    split
    · split
      · split <;> first | exact ⟨rfl, fun r hr => by cases hr; exact ⟨rfl, rfl, trivial⟩⟩ | exact ⟨rfl, fun r hr => by cases hr⟩
      · exact ⟨rfl, fun r hr => by cases hr⟩
    · exact ⟨rfl, fun r hr => by cases hr⟩
  case extract x i =>
    unfold resExtract
    rw [hm (xs := [x]) (fun _ h => h) x (by simp)]
    split
    · split <;> first | exact ⟨rfl, fun r hr => by cases hr; exact ⟨rfl, rfl, trivial⟩⟩ | exact ⟨rfl, fun r hr => by cases hr⟩
    · exact ⟨rfl, fun r hr => by cases hr⟩
  case call c =>
    obtain ⟨callee, args, argTypes⟩ := c
    cases callee with
    | value f => exact ⟨rfl, fun r hr => by cases hr⟩
    | invoke r n => exact ⟨rfl, fun r hr => by cases hr⟩
    | builtin b =>
      cases b <;> simp only [Bool.false_eq_true] at hA
      all_goals
        simp only [absBuiltin]
        split
        · first
          | (rename_i hb _; cases hb; done)
          | (rename_i x hb hx
             simp only [hx, List.nil_append] at hm
             unfold resLn
             rw [hm (xs := [x]) (fun _ h => h) x (by simp)]
             split
             · unfold resLenM
               rw [hm (xs := [x]) (fun _ h => h) x (by simp)]
               split
               · split <;> first | exact ⟨rfl, fun r hr => by cases hr; exact ⟨rfl, rfl, trivial⟩⟩ | exact ⟨rfl, fun r hr => by cases hr⟩
               · exact ⟨rfl, fun r hr => by cases hr⟩
             · unfold resLen
               rw [hm (xs := [x]) (fun _ h => h) x (by simp)]
               split
               · split
                 · exact ⟨rfl, fun r hr => by cases hr; exact ⟨rfl, rfl, trivial⟩⟩
                 · split <;> first | exact ⟨rfl, fun r hr => by cases hr; exact ⟨rfl, rfl, trivial⟩⟩ | exact ⟨rfl, fun r hr => by cases hr⟩
                 · exact ⟨rfl, fun r hr => by cases hr⟩
               · exact ⟨rfl, fun r hr => by cases hr⟩)
        · rename_i hb _; cases hb
        · first
          | (rename_i hb _; cases hb; done)
          | (rename_i x z hb hx
             simp only [hx, List.nil_append] at hm
             unfold resMM
             rw [hm (xs := [x, z]) (fun _ h => h) x (by simp), hm (xs := [x, z]) (fun _ h => h) z (by simp)]
             split
             · split <;> first | exact ⟨rfl, fun r hr => by cases hr; exact ⟨rfl, rfl, trivial⟩⟩ | exact ⟨rfl, fun r hr => by cases hr⟩
             · exact ⟨rfl, fun r hr => by cases hr⟩)
        · first
          | (rename_i hb _; cases hb; done)
          | (rename_i x z hb hx
             simp only [hx, List.nil_append] at hm
             unfold resMM
             rw [hm (xs := [x, z]) (fun _ h => h) x (by simp), hm (xs := [x, z]) (fun _ h => h) z (by simp)]
             split
             · split <;> first | exact ⟨rfl, fun r hr => by cases hr; exact ⟨rfl, rfl, trivial⟩⟩ | exact ⟨rfl, fun r hr => by cases hr⟩
             · exact ⟨rfl, fun r hr => by cases hr⟩)
        · exact ⟨rfl, fun r hr => by cases hr⟩
end Go.Abs
set_option linter.unusedVariables false
set_option linter.unusedSimpArgs false
namespace Go.Abs
open Go
def LInv (S : List Nat) (s : AState) : Prop := ∀ t u, s.loans t = some (.tmp u) → u ∈ S
theorem LInv.free {S : List Nat} {s : AState} (h : LInv S s) {d : Nat} (hd : d ∉ S) : s.free d := fun t e => hd (h t d e)
structure Frame0 (op : Op) (s : AState) (r : Res) : Prop where
  n : r.st.n = s.n
  copy : ∀ t, (r.st.get t).copy = (s.get t).copy
  loans : ∀ t p, r.st.loans t = some p → s.loans t = some p
  loan : ∀ u, r.loan = some (.tmp u) → isMove op = true ∧ u ∈ usesOp op
  calm : (isA op || isMove op || isLoad op || isNew op) = true → (∀ t, r.st.get t = s.get t) ∧ ∃ bl, r.st.blocks = s.blocks ++ bl ∧ (isNew op = false → bl = [])
theorem frame_same {op : Op} {s : AState} {c : Prop} {v : AV} {l : Option Place} (hl : ∀ u, l = some (.tmp u) → isMove op = true ∧ u ∈ usesOp op) : Frame0 op s ⟨c, v, l, s⟩ :=
  ⟨rfl, fun _ => rfl, fun _ _ h => h, hl, fun _ => ⟨fun _ => rfl, [], by simp, fun _ => rfl⟩⟩
theorem copy_copy (x : AV) : x.copy.copy = x.copy := by cases x <;> rfl
theorem takeS_frame (s : AState) (x : Operand) : (s.takeS x).n = s.n ∧ (∀ t, ((s.takeS x).get t).copy = (s.get t).copy) ∧ ∀ t, (s.takeS x).loans t = s.loans t := by
  cases x with
  | tmp u =>
    simp only [AState.takeS]
    cases s.owner u with
    | none => exact ⟨rfl, fun _ => rfl, fun _ => rfl⟩
    | some p =>
      cases p with
      | tmp w =>
        refine ⟨rfl, fun t => ?_, fun _ => rfl⟩
        show (if t = w then (s.tmps w).copy else s.tmps t).copy = (s.tmps t).copy
        split
        · rename_i e; rw [e, copy_copy]
        · rfl
      | cell b o => exact ⟨rfl, fun _ => rfl, fun _ => rfl⟩
  | _ => exact ⟨rfl, fun _ => rfl, fun _ => rfl⟩
theorem setCells_frame (b : Nat) : ∀ (xs : List AV) (o : Nat) (s : AState), (s.setCells b o xs).n = s.n ∧ (∀ t, (s.setCells b o xs).get t = s.get t) ∧ ∀ t p, (s.setCells b o xs).loans t = some p → s.loans t = some p
  | [], o, s => ⟨rfl, fun _ => rfl, fun _ _ h => h⟩
  | x :: xs, o, s => by
    obtain ⟨h1, h2, h3⟩ := setCells_frame b xs (o + 1) (s.setCell b o x)
    refine ⟨h1, h2, fun t p hp => ?_⟩
    have := h3 t p hp
    simp only [AState.setCell] at this
    split at this
    · cases this
    · exact this
theorem absOp_frame {P : Program} {s : AState} {op : Op} {r : Res} (h : absOp P s op = some r) : Frame0 op s r := by
  by_cases hA : isA op = true
  · obtain ⟨_, h2⟩ := absOp_look (P := P) (s := s) (s2 := s) hA (fun _ _ => rfl)
    obtain ⟨h3, h4, _⟩ := h2 r h
    obtain ⟨c, v, l, st⟩ := r
    simp only at h3 h4
    subst h3; subst h4
    exact frame_same (fun u hu => by cases hu)
  · cases op <;> simp only [absOp, reduceCtorEq] at h <;> try (exact absurd rfl hA)
    case move x =>
      cases h
      refine frame_same fun u hu => ⟨rfl, ?_⟩
      cases x with
      | tmp t =>
        simp only [AState.loanOf] at hu
        split at hu
        · cases hu; simp [usesOp, tmpsOf]
        · cases hu
      | _ => cases hu
    case assign x =>
      cases h
      obtain ⟨h1, h2, h3⟩ := takeS_frame s x
      exact ⟨h1, h2, fun t p hp => by rw [← h3 t]; exact hp, fun u hu => (by cases hu), fun hc => by simp [isA, isMove, isLoad, isNew] at hc⟩
    case alloc t =>
      unfold resAlloc at h
      split at h
      · split at h
        · cases h
          exact ⟨rfl, fun _ => rfl, fun _ _ h => h, fun u hu => (by cases hu), fun _ => ⟨fun _ => rfl, _, rfl, fun hc => by simp [isNew] at hc⟩⟩
        · cases h
      · cases h
    case box t x =>
      cases h
      exact ⟨rfl, fun _ => rfl, fun _ _ h => h, fun u hu => (by cases hu), fun _ => ⟨fun _ => rfl, _, rfl, fun hc => by simp [isNew] at hc⟩⟩
    case load t x =>
      unfold resLoad at h
      split at h
      · split at h
        · cases h
          refine frame_same fun u hu => ?_
          split at hu
          · split at hu
            · cases hu
            · cases hu
          · cases hu
        · cases h
      · split at h
        · cases h; exact frame_same fun u hu => by cases hu
        · cases h
      · cases h
    case makeSlice t l c =>
      unfold resMk at h
      split at h
      · unfold resMake at h
        split at h
        · split at h
          · split at h
            · split at h
              · cases h; exact frame_same fun u hu => by cases hu
              · cases h
            · cases h
          · cases h
        · cases h
      · unfold resMakeM at h
        split at h
        · split at h
          · split at h
            · split at h
              · cases h
                exact ⟨rfl, fun _ => rfl, fun _ _ h => h, fun u hu => (by cases hu), fun hc => by simp [isA, isMove, isLoad, isNew] at hc⟩
              · cases h
            · cases h
          · cases h
        · cases h
    case store t x z =>
      unfold resStore at h
      obtain ⟨h1, h2, h3⟩ := takeS_frame s z
      split at h
      · split at h
        · cases h
          refine ⟨h1, h2, fun t p hp => ?_, fun u hu => (by cases hu), fun hc => by simp [isA, isMove, isLoad, isNew] at hc⟩
          simp only [AState.setCell] at hp
          split at hp
          · cases hp
          · rw [← h3 t]; exact hp
        · cases h
          obtain ⟨g1, g2, g3⟩ := setCells_frame _ (List.map AV.copy (s.takeV z).cells) _ (s.takeS z)
          exact ⟨g1.trans h1, fun t => by rw [g2 t]; exact h2 t, fun t p hp => by rw [← h3 t]; exact g3 t p hp, fun u hu => (by cases hu), fun hc => by simp [isA, isMove, isLoad, isNew] at hc⟩
      · cases h
    case call c =>
      obtain ⟨callee, args, argTypes⟩ := c
      cases callee with
      | value f => cases h
      | invoke r n => cases h
      | builtin b =>
        simp only [absBuiltin] at h
        split at h
        · exact absurd rfl hA
        · unfold resApp at h
          split at h
          · unfold resAppE at h
            split at h
            · split at h
              · split at h
                · split at h
                  · cases h
                    exact ⟨rfl, fun _ => rfl, fun _ _ h => h, fun u hu => (by cases hu), fun hc => by simp [isA, isMove, isLoad, isNew] at hc⟩
                  · cases h
                · cases h
              · cases h
            · cases h
          · unfold resAppQ at h
            split at h
            · split at h
              · split at h
                · split at h
                  · cases h
                    exact ⟨(takeS_frame s _).1, (takeS_frame s _).2.1, fun t p hp => by rw [← (takeS_frame s _).2.2 t]; exact hp, fun u hu => (by cases hu), fun hc => by simp [isA, isMove, isLoad, isNew] at hc⟩
                  · cases h
                · cases h
              · cases h
            · cases h
          · unfold resAppend at h
            split at h
            · split at h
              · split at h
                · split at h
                  · cases h
                    exact ⟨(takeS_frame s _).1, (takeS_frame s _).2.1, fun t p hp => by rw [← (takeS_frame s _).2.2 t]; exact hp, fun u hu => (by cases hu), fun hc => by simp [isA, isMove, isLoad, isNew] at hc⟩
                  · cases h
                · cases h
              · cases h
            · cases h
        · exact absurd rfl hA
        · exact absurd rfl hA
        · cases h
theorem get_put' (s : AState) (d t : Nat) (x : AV) (h : t ≠ d) : (s.put d x).get t = s.get t := by
  unfold AState.put; split
  · simp only [AState.get, if_neg h]
  · rfl
theorem get_putL' (s : AState) (d t : Nat) (x : AV) (l : Option Place) (h : t ≠ d) : (s.putL d x l).get t = s.get t := by
  unfold AState.putL
  cases l with
  | none => exact get_put' s d t x h
  | some p =>
    simp only
    split
    · exact get_put' s d t x h
    · exact get_put' s d t x h
theorem n_putL' (s : AState) (d : Nat) (x : AV) (l : Option Place) : (s.putL d x l).n = s.n := by
  unfold AState.putL
  cases l with
  | none => exact put_n s d x
  | some p =>
    simp only
    split
    · exact put_n s d x
    · exact put_n s d x
theorem blocks_putL' (s : AState) (d : Nat) (x : AV) (l : Option Place) : (s.putL d x l).blocks = s.blocks := by
  unfold AState.putL
  cases l with
  | none => exact put_blocks s d x
  | some p =>
    simp only
    split
    · exact put_blocks s d x
    · exact put_blocks s d x
theorem loans_put' {s : AState} {d t : Nat} {x : AV} {p : Place} (h : (s.put d x).loans t = some p) : s.loans t = some p := by
  unfold AState.put at h; split at h
  · simp only at h
    split at h
    · cases h
    · split at h
      · cases h
      · exact h
  · exact h
theorem loans_putL' {s : AState} {d t : Nat} {x : AV} {l : Option Place} {p : Place} (h : (s.putL d x l).loans t = some p) : s.loans t = some p ∨ l = some p := by
  unfold AState.putL at h
  cases l with
  | none => exact .inl (loans_put' h)
  | some q =>
    simp only at h
    split at h
    · exact .inl (loans_put' h)
    · simp only at h
      split at h
      · exact .inr h
      · exact .inl (loans_put' h)
theorem stepD_frame {P : Program} {B : List Nat} {o : Oper} {s s' : AState} (h : StepD P B o s s') : s'.n = s.n ∧ (∀ t, o.dst ≠ some t → (s'.get t).copy = (s.get t).copy) ∧
    (∀ t u, s'.loans t = some (.tmp u) → s.loans t = some (.tmp u) ∨ (isMove o.op = true ∧ u ∈ usesOp o.op)) ∧
    ((isA o.op || isMove o.op || isLoad o.op || isNew o.op) = true → (∀ t, o.dst ≠ some t → s'.get t = s.get t) ∧ ∃ bl, s'.blocks = s.blocks ++ bl ∧ (isNew o.op = false → bl = [])) := by
  rcases h with ⟨c, x, f, first, captured, res, h1, h2, h3, h4, h5, h6, rfl⟩ | ⟨r, h1, h2, hgd, rfl⟩
  · have hg : ∀ t, o.dst ≠ some t → (s.putO o.dst res).get t = s.get t := fun t ht => by
      cases hd : o.dst with
      | none => rfl
      | some d => exact get_put' s d t res (fun e => ht (by rw [hd, e]))
    refine ⟨?_, fun t ht => by rw [hg t ht], fun t u hu => .inl ?_, fun _ => ⟨hg, [], ?_, fun _ => rfl⟩⟩
    · cases hd : o.dst with
      | none => rfl
      | some d => exact put_n s d res
    · cases hd : o.dst with
      | none => rw [hd] at hu; exact hu
      | some d => rw [hd] at hu; exact loans_put' hu
    · cases hd : o.dst with
      | none => simp [AState.putO]
      | some d => simp [AState.putO, put_blocks]
  · have hf := absOp_frame h1
    cases hd : o.dst with
    | none =>
      simp only [AState.putR]
      exact ⟨hf.n, fun t _ => hf.copy t, fun t u hu => .inl (hf.loans t _ hu), fun hc => ⟨fun t _ => (hf.calm hc).1 t, (hf.calm hc).2⟩⟩
    | some d =>
      simp only [AState.putR]
      refine ⟨by rw [n_putL']; exact hf.n, fun t ht => by rw [get_putL' _ _ _ _ _ (fun e => ht (by rw [e]))]; exact hf.copy t, fun t u hu => ?_, fun hc => ⟨fun t ht => by rw [get_putL' _ _ _ _ _ (fun e => ht (by rw [e]))]; exact (hf.calm hc).1 t, ?_⟩⟩
      · rcases loans_putL' hu with hu | hu
        · exact .inl (hf.loans t _ hu)
        · exact .inr (hf.loan u hu)
      · rw [blocks_putL']; exact (hf.calm hc).2
theorem gstep_cases {P : Program} {B : List Nat} {ops : Array Oper} {o : Oper} {s s' : AState} (h : GStep P B ops o s s') : StepD P B o s s' ∨ s' = s.putO o.dst (.tup []) := by
  unfold GStep at h
  split at h
  · exact .inl h
  · obtain ⟨g, _, ⟨b, _, ⟨_, h⟩ | ⟨_, h⟩⟩ | ⟨_, h⟩⟩ := h
    · exact .inl h
    · exact .inr h
    · exact .inr h
theorem gstep_frame {P : Program} {B : List Nat} {ops : Array Oper} {o : Oper} {s s' : AState} (h : GStep P B ops o s s') : s'.n = s.n ∧ (∀ t, o.dst ≠ some t → (s'.get t).copy = (s.get t).copy) ∧
    (∀ t u, s'.loans t = some (.tmp u) → s.loans t = some (.tmp u) ∨ (isMove o.op = true ∧ u ∈ usesOp o.op)) ∧
    ((isA o.op || isMove o.op || isLoad o.op || isNew o.op) = true → (∀ t, o.dst ≠ some t → s'.get t = s.get t) ∧ ∃ bl, s'.blocks = s.blocks ++ bl ∧ (isNew o.op = false → bl = [])) := by
  rcases gstep_cases h with h | rfl
  · exact stepD_frame h
  · have hg : ∀ t, o.dst ≠ some t → (s.putO o.dst (.tup [])).get t = s.get t := fun t ht => by
      cases hd : o.dst with
      | none => rfl
      | some d => exact get_put' s d t _ (fun e => ht (by rw [hd, e]))
    refine ⟨?_, fun t ht => by rw [hg t ht], fun t u hu => .inl ?_, fun _ => ⟨hg, [], ?_, fun _ => rfl⟩⟩
    · cases hd : o.dst with
      | none => rfl
      | some d => exact put_n s d _
    · cases hd : o.dst with
      | none => rw [hd] at hu; exact hu
      | some d => rw [hd] at hu; exact loans_put' hu
    · cases hd : o.dst with
      | none => simp [AState.putO]
      | some d => simp [AState.putO, put_blocks]
def SameView (B : List Nat) (ops : Array Oper) (o : Oper) (s s2 : AState) : Prop :=
  (∀ t, t ∈ usesG ops o → (s2.get t).copy = (s.get t).copy) ∧ (isA o.op = false → ∀ t, t ∈ usesG ops o → s2.get t = s.get t) ∧
  (isLoad o.op = true → ∀ t b off, t ∈ usesOp o.op → s.get t = .mptr b off → b < s.blocks.length → (B = [] ∨ b ∉ B) → s2.blocks.getD b [] = s.blocks.getD b [] ∧ b < s2.blocks.length)
theorem look_of_copy {s s2 : AState} {uses : List Nat} (h : ∀ t, t ∈ uses → (s2.get t).copy = (s.get t).copy) {x : Operand} (hx : ∀ t, x = .tmp t → t ∈ uses) : s2.look x = s.look x := by
  cases x with
  | tmp t => exact h t (hx t rfl)
  | _ => rfl
theorem gd_A {B : List Nat} {s : AState} {op : Op} (h : isA op = true) : Gd B s op := by
  cases op <;> first | trivial | simp [isA] at h
theorem setCells_other (b : Nat) : ∀ (xs : List AV) (o : Nat) (s : AState), (∀ t, (s.setCells b o xs).get t = s.get t) ∧ (s.setCells b o xs).blocks.length = s.blocks.length ∧ ∀ b', b' ≠ b → (s.setCells b o xs).blocks.getD b' [] = s.blocks.getD b' []
  | [], o, s => ⟨fun _ => rfl, rfl, fun _ _ => rfl⟩
  | x :: xs, o, s => by
    obtain ⟨h1, h2, h3⟩ := setCells_other b xs (o + 1) (s.setCell b o x)
    simp only [AState.setCells]
    refine ⟨fun t => by rw [h1]; rfl, by rw [h2]; simp [AState.setCell], fun b' hb => ?_⟩
    rw [h3 b' hb]
    simp only [AState.setCell, List.getD_eq_getElem?_getD, List.getElem?_set_ne (Ne.symm hb)]
theorem stepD_store {P : Program} {B : List Nat} {o : Oper} {s s' : AState} (hB : B ≠ []) (ho : isPut o.op = true) (h : StepD P B o s s') :
    (∀ t, o.dst ≠ some t → s'.get t = s.get t) ∧ s'.blocks.length = s.blocks.length ∧ ∀ b, b ∉ B → s'.blocks.getD b [] = s.blocks.getD b [] := by
  rcases h with ⟨c, x, f, first, captured, res, h1, _⟩ | ⟨r, h1, h2, hgd, rfl⟩
  · rw [h1] at ho; simp [isPut] at ho
  · cases hop : o.op <;> rw [hop] at ho <;> simp only [isPut, Bool.false_eq_true] at ho
    case assign x =>
      rw [hop] at h1 hgd
      rcases hgd with hgd | hown
      · exact absurd hgd hB
      have hS : s.takeS x = s := by
        cases x with
        | tmp t => simp only [AState.takeS, hown t rfl]
        | _ => rfl
      simp only [absOp, resAssign, Option.some.injEq] at h1
      subst h1
      rw [hS]
      cases hd : o.dst with
      | none => exact ⟨fun _ _ => rfl, rfl, fun _ _ => rfl⟩
      | some d => exact ⟨fun t ht => get_putL' s d t _ _ (fun e => ht (by rw [e])), by simp [AState.putR, blocks_putL'], fun b _ => by simp [AState.putR, blocks_putL']⟩
    case store t x y =>
      rw [hop] at h1 hgd
      rcases hgd with hgd | ⟨⟨b, off, hev, hbB⟩, hown⟩
      · exact absurd hgd hB
      have hS : s.takeS y = s := by
        cases y with
        | tmp t => simp only [AState.takeS, hown t rfl]
        | _ => rfl
      have hV : (s.takeV y).owns = false := by
        cases y with
        | tmp t => simp only [AState.takeV, hown t rfl]; exact owns_copy _
        | const v => exact owns_ofConst v
        | _ => rfl
      simp only [absOp, resStore, hev] at h1
      split at h1
      · rename_i i b' off' he hi
        cases he
        rw [hV] at h1
        simp only [Bool.false_eq_true, if_false, Option.some.injEq] at h1
        subst h1
        obtain ⟨q1, q2, q3⟩ := setCells_other b ((s.takeV y).cells.map AV.copy) off s
        have hput : ∀ (st : AState) (d : Option Nat), (∀ t, d ≠ some t → (AState.putR st d ⟨True, .top, none, st⟩).get t = st.get t) ∧ (AState.putR st d ⟨True, .top, none, st⟩).blocks = st.blocks := fun st d => by
          cases d with
          | none => exact ⟨fun _ _ => rfl, rfl⟩
          | some d => exact ⟨fun t ht => get_putL' st d t _ _ (fun e => ht (by rw [e])), blocks_putL' st d _ _⟩
        have hst : ∀ sd : Prop, s.putR o.dst ⟨sd, .top, none, (s.takeS y).setCells b off ((s.takeV y).cells.map AV.copy)⟩ = (s.setCells b off ((s.takeV y).cells.map AV.copy)).putR o.dst ⟨True, .top, none, s.setCells b off ((s.takeV y).cells.map AV.copy)⟩ := fun sd => by
          rw [hS]; cases o.dst <;> rfl
        rw [hst]
        obtain ⟨p1, p2⟩ := hput (s.setCells b off ((s.takeV y).cells.map AV.copy)) o.dst
        refine ⟨fun t ht => by rw [p1 t ht, q1], by rw [p2, q2], fun b' hb' => by rw [p2]; exact q3 b' (fun e => hb' (by rw [e]; exact hbB))⟩
      · cases h1
theorem gstep_store {P : Program} {B : List Nat} {ops : Array Oper} {o : Oper} {s s' : AState} (hB : B ≠ []) (ho : isPut o.op = true) (h : GStep P B ops o s s') :
    (∀ t, o.dst ≠ some t → s'.get t = s.get t) ∧ s'.blocks.length = s.blocks.length ∧ ∀ b, b ∉ B → s'.blocks.getD b [] = s.blocks.getD b [] := by
  rcases gstep_cases h with h | rfl
  · exact stepD_store hB ho h
  · cases hd : o.dst with
    | none => exact ⟨fun _ _ => rfl, rfl, fun _ _ => rfl⟩
    | some d => exact ⟨fun t ht => get_put' s d t _ (fun e => ht (by rw [e])), by simp [AState.putO, put_blocks], fun b _ => by simp [AState.putO, put_blocks]⟩
theorem stepD_yields {P : Program} {B : List Nat} {ops : Array Oper} {o : Oper} {d : Nat} (hd : o.dst = some d) (hc : (isA o.op || isMove o.op || isLoad o.op) = true) {s s' : AState} (h : StepD P B o s s') :
    ∃ v l, (∀ u, l = some (.tmp u) → u ∈ usesOp o.op) ∧ (isLoad o.op = false → notCell l) ∧ (∀ b o, l = some (.cell b o) → B = [] ∨ b ∉ B) ∧ s' = s.putL d v l ∧ ∀ s2, SameView B ops o s s2 → StepD P B o s2 (s2.putL d v l) := by
  rcases h with ⟨c, x, f, first, captured, res, h1, h2, h3, h4, h5, h6, rfl⟩ | ⟨r, h1, h2, hgd, rfl⟩
  · refine ⟨res, none, fun u hu => (by cases hu), fun _ b o hb => (by cases hb), fun b o hb => (by cases hb), by rw [hd]; rfl, fun s2 hv => ?_⟩
    have hu : ∀ z, (∀ t, z = .tmp t → t ∈ usesOp o.op) → s2.look z = s.look z := fun z hz => look_of_copy (fun t ht => hv.1 t (List.mem_append_left _ ht)) hz
    have hmem : ∀ z, z ∈ x :: c.args.toList → ∀ t, z = .tmp t → t ∈ usesOp o.op := fun z hz t e => by rw [h1, usesOp_call h2]; exact mem_tmpsOf (by rw [← e]; exact hz)
    have ha : callArgs s2 first captured c.args = callArgs s first captured c.args := by
      unfold callArgs
      congr 2
      exact List.map_congr_left fun z hz => by rw [hu z (hmem z (List.mem_cons_of_mem _ hz))]
    exact .inl ⟨c, x, f, first, captured, res, h1, h2, by rw [hu x (hmem x (List.mem_cons_self ..))]; exact h3, by rw [ha]; exact h4, by rw [ha]; exact h5, h6, by rw [hd]; rfl⟩
  · by_cases hA : isA o.op = true
    · obtain ⟨_, e2⟩ := absOp_look (P := P) (s := s) (s2 := s) hA (fun _ _ => rfl)
      obtain ⟨e3, e4, _⟩ := e2 r h1
      obtain ⟨c, v, l, st⟩ := r
      simp only at e3 e4
      subst e3; subst e4
      refine ⟨v, none, fun u hu => (by cases hu), fun _ b o hb => (by cases hb), fun b o hb => (by cases hb), by rw [hd]; rfl, fun s2 hv => ?_⟩
      obtain ⟨e1, _⟩ := absOp_look (P := P) (s := st) (s2 := s2) hA (fun x hx => look_of_copy (fun t ht => hv.1 t (List.mem_append_left _ ht)) hx)
      rw [h1] at e1
      exact .inr ⟨_, e1, h2, gd_A hA, by rw [hd]; rfl⟩
    · have hA' : isA o.op = false := by simpa using hA
      have hML : isMove o.op = true ∨ isLoad o.op = true := by simpa [hA'] using hc
      cases ho : o.op <;> rw [ho] at hML <;> simp only [isMove, isLoad, Bool.false_eq_true, or_self, or_false, false_or] at hML
      case move x =>
        rw [ho] at h1
        cases h1
        refine ⟨s.look x, s.loanOf x, fun u hu => ?_, fun _ b off hb => ?_, fun b off hb => ?_, by rw [hd]; rfl, fun s2 hv => ?_⟩
        · cases x with
          | tmp t =>
            simp only [AState.loanOf] at hu
            split at hu
            · cases hu; simp [usesOp, tmpsOf]
            · cases hu
          | _ => cases hu
        · cases x with
          | tmp t =>
            simp only [AState.loanOf] at hb
            split at hb <;> cases hb
          | _ => cases hb
        · cases x with
          | tmp t =>
            simp only [AState.loanOf] at hb
            split at hb <;> cases hb
          | _ => cases hb
        · have e : s2.look x = s.look x ∧ s2.loanOf x = s.loanOf x := by
            cases x with
            | tmp t =>
              have := hv.2.1 hA' t (List.mem_append_left _ (by rw [ho]; simp [usesOp, tmpsOf]))
              simp only [AState.look, AState.ev, AState.loanOf, this, and_self]
            | _ => exact ⟨rfl, rfl⟩
          exact .inr ⟨resMove s2 x, by rw [ho]; rfl, trivial, by rw [ho]; trivial, by rw [hd]; simp only [AState.putR, resMove, e.1, e.2]⟩
      case load t x =>
        rw [ho] at h1 hgd
        simp only [absOp] at h1
        have hxu : ∀ t', x = .tmp t' → t' ∈ usesOp o.op := fun t' e => by rw [ho]; exact mem_tmpsOf (by rw [e]; exact List.mem_cons_self ..)
        have hlook : ∀ s2, SameView B ops o s s2 → s2.look x = s.look x := fun s2 hv => look_of_copy (fun t ht => hv.1 t (List.mem_append_left _ ht)) hxu
        unfold resLoad at h1
        split at h1
        · rename_i b off hx
          split at h1
          · rename_i side v hl
            cases h1
            refine ⟨v, _, fun u hu => ?_, fun hh => (by simp [isLoad] at hh), fun b' o' hb' => ?_, by rw [hd]; rfl, fun s2 hv => ?_⟩
            · split at hu
              · split at hu <;> cases hu
              · cases hu
            · split at hb'
              · split at hb'
                · cases hb'; exact hgd.imp id fun h => h _ _ hx
                · cases hb'
              · cases hb'
            · have hlk := hlook s2 hv
              have hb : s2.blocks.getD b [] = s.blocks.getD b [] ∧ b < s2.blocks.length := by
                cases x with
                | tmp t' =>
                  refine hv.2.2 (by rw [ho]; rfl) t' b off (hxu t' rfl) ?_ h2.1 (hgd.imp id fun h => h _ _ hx)
                  have hx' : (s.get t').copy = .mptr b off := hx
                  cases hg : s.get t' <;> rw [hg] at hx' <;> simp at hx'
                  rw [hx'.1, hx'.2]
                | const w =>
                  have hx' : (AV.ofConst w).copy = .mptr b off := hx
                  exfalso
                  unfold AV.ofConst AV.ofConst1 at hx'
                  split at hx'
                  · cases hx'
                  · split at hx' <;> first | cases hx' | (split at hx' <;> cases hx')
                | global g => cases hx
                | func f => cases hx
              refine .inr ⟨⟨b < s2.blocks.length ∧ side, v, if ((s.blocks.getD b []).getD off .top).owns then (if isAggB P t = some false then some (.cell b off) else none) else none, s2⟩, ?_, ⟨hb.2, h2.2⟩, by rw [ho]; show B = [] ∨ _; rw [hlk]; exact hgd, by rw [hd]; rfl⟩
              rw [ho]
              simp only [absOp, resLoad, hlk, hx, hb.1, hl]
          · cases h1
        · rename_i cells hx
          split at h1
          · rename_i side v hl
            cases h1
            refine ⟨v, none, fun u hu => (by cases hu), fun _ b o hb => (by cases hb), fun b o hb => (by cases hb), by rw [hd]; rfl, fun s2 hv => ?_⟩
            exact .inr ⟨⟨side, v, none, s2⟩, by rw [ho]; simp only [absOp, resLoad, hlook s2 hv, hx, hl], h2, by rw [ho]; show B = [] ∨ _; rw [hlook s2 hv]; exact hgd, by rw [hd]; rfl⟩
          · cases h1
        · cases h1
end Go.Abs
