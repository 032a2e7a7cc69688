/- The row PatternCovers holds: what covers a pattern matches what this matches, and covering is as specified. Part 14 of 18. No condition. -/
import Derived.Test.YtlekkicnlddhlaaGreatDoorPCm
import Derived.Test.YtlekkicnlddhlaaGreatDoorRows
import Derived.Shelf.Vars
import Derived.Lib.LaidU8
import Derived.Lib.LaidTab
import Derived.Stop.Joined
set_option linter.unusedVariables false
set_option linter.unnecessarySimpa false
set_option linter.unusedSimpArgs false
set_option maxRecDepth 100000
set_option maxHeartbeats 1000000
namespace Go.Proofs.YtlekkicnlddhlaaGreatDoor
open Go Go.Abs
theorem op24 (n : Nat) : zE6 Tryz.prog n 24 zHm.c (fun _ => True) := by
 induction n using Nat.strongRecOn with
 | _ n ih =>
  exact zE0 Tryz.underlying24 (N := 4) (by kernel_rfl) (fun p => ⟨p.1, p.2.1, p.2.2.1, p.2.2.2.1⟩) (fun p => by simp) (fun _ _ => trivial) (fun k hk =>
   zBR rfl (k := 1) (by kernel_rfl) (zEL Tryz.underlying3 k) (zBR rfl (k := 1) (by kernel_rfl) (zEL Tryz.underlying3 k)
    (zBR rfl (k := 1) (by kernel_rfl) (zFE Tryz.underlying9 k)
     (zBR rfl (k := 1) (by kernel_rfl) (zD3 Tryz.underlying22 (m := 4) (b := 56) (by kernel_rfl) (by kernel_rfl) (by decide) (fun a => by simp) (fun j hj => ih j (by omega))) (zGT (by decide))))))
theorem op28 (n : Nat) : zE6 Tryz.prog n 28 zHl.c (fun _ => True) := by
 induction n using Nat.strongRecOn with
 | _ n ih =>
  exact zE0 Tryz.underlying28 (N := 5) (by kernel_rfl) (fun p => ⟨p.1, p.2.1, p.2.2.1, p.2.2.2.1, p.2.2.2.2.1⟩) (fun p => by simp) (fun _ _ => trivial) (fun k hk =>
   zBR rfl (k := 1) (by kernel_rfl) (zEL Tryz.underlying3 k) (zBR rfl (k := 1) (by kernel_rfl) (zEL Tryz.underlying3 k)
    (zBR rfl (k := 1) (by kernel_rfl) (zFE Tryz.underlying9 k)
     (zBR rfl (k := 1) (by kernel_rfl) (zD3 Tryz.underlying25 (m := 1) (b := 16) (by kernel_rfl) (by kernel_rfl) (by decide) (fun a => by simp) (fun j hj => zFE Tryz.underlying9 j))
      (zBR rfl (k := 1) (by kernel_rfl) (zD3 Tryz.underlying26 (m := 5) (b := 80) (by kernel_rfl) (by kernel_rfl) (by decide) (fun a => by simp) (fun j hj => ih j (by omega))) (zGT (by decide)))))))
theorem own : ownKnob Tryz.prog.godebug = none := by kernel_rfl
theorem laid : laidOutB Tryz.prog = true := by kernel_rfl
theorem tab_reads {W : World} {name : String} {k : IntKind} {zs : List Int} {g : Nat} {t e : TypeId} {n : Nat}
  (hg : Tryz.prog.globalNamed name = some g) (hty : (Tryz.prog.globals[g]?).map (·.type) = some t) (ht : Tryz.prog.underlying t = some (.array n e)) (he : Tryz.prog.underlying e = some (.int k)) (hce : Tryz.prog.cellsOf e = 1) (hct : Tryz.prog.cellsOf t = n)
  (h : Lib.VarReads Tryz.prog W name (Lib.tabData k zs)) : ∃ ty fr, W.heap[g]? = some (.cells (zs.map fun z => Value.int k z).toArray ty fr) := by
 obtain ⟨g', t', cs, fuel, p, hg', ht', hvar, hd⟩ := h
 obtain rfl := Option.some.inj (hg.symm.trans hg')
 obtain rfl := Option.some.inj (hty.symm.trans ht')
 have hcs := Lib.cells_of_tab ht he hce hct hd
 unfold World.var? at hvar
 rw [hg] at hvar
 simp only [Option.bind_some] at hvar
 split at hvar
 ·rename_i c ty fr hh
  cases hvar
  refine ⟨ty, fr, ?_⟩
  rw [hh, ← hcs]
 ·cases hvar
theorem glob {Q : World → Prop} (hQ : ∀ W, Q W → Lib.VarReads Tryz.prog W "internal/strconv.uint64pow10" (Lib.tabData .u64 Lib.pow10Tab) ∧ Lib.VarReads Tryz.prog W "strings.asciiSpace" (Lib.tabData .u8 Lib.asciiSpaceTab)) :
  ∀ W : World, W.ShapedOpen Tryz.prog → Q W → GOk (fun x => W.cell? x) ∧ Tabs W := fun W h hq => by
 obtain ⟨h1, h2⟩ := hQ W hq
 refine ⟨fun i hi => ?_, fun t ht => ?_⟩
 ·obtain rfl : i = 0 := by simpa [gl] using hi
  exact cell_of_shapedOpen_int h (t := 3) (zero := #[.int .i64 0]) (k := .i64) (of_decide_eq_true (by kernel_rfl)) (by kernel_rfl) rfl (by kernel_rfl) (by kernel_rfl) Tryz.underlying3
 simp only [tb, tb1, tb2, List.cons_append, List.nil_append, List.mem_cons, List.not_mem_nil, or_false] at ht
 rcases ht with rfl | rfl
 ·exact tab_reads (t := 200) (e := 132) (by kernel_rfl) (by kernel_rfl) (n := 20) (by kernel_rfl) (by kernel_rfl) (by kernel_rfl) (by kernel_rfl) h1
 ·exact tab_reads (t := 203) (e := 5) (by kernel_rfl) (by kernel_rfl) (n := 256) (by kernel_rfl) (by kernel_rfl) (by kernel_rfl) (by kernel_rfl) h2
def sln (l : List (List UInt8)) : Nat := (l.map List.length).sum
def vnd (v : zHl) : Nat := 1 + (v.L.map vnd).sum
decreasing_by all_goals (cases v; simp only [zHl.mk.sizeOf_spec]; have := List.sizeOf_lt_of_mem ‹_›; simp only at this; omega)
theorem vnd_eq (v : zHl) : vnd v = 1 + (v.L.map vnd).sum := by rw [vnd]
def vwt (v : zHl) : Nat := 100 + v.S.length + v.Names.length + sln v.Names + v.L.length + (v.L.map vwt).sum
decreasing_by all_goals (cases v; simp only [zHl.mk.sizeOf_spec]; have := List.sizeOf_lt_of_mem ‹_›; simp only at this; omega)
theorem vwt_eq (v : zHl) : vwt v = 100 + v.S.length + v.Names.length + sln v.Names + v.L.length + (v.L.map vwt).sum := by rw [vwt]
theorem zEV {v x : zHl} (h : x ∈ v.L) : vwt x + 100 + v.S.length + v.Names.length + sln v.Names + v.L.length ≤ vwt v := by
 rw [vwt_eq v]
 have := le_sum vwt h
 omega
theorem zFs {v x : zHl} (h : x ∈ v.L) : vnd x + 1 ≤ vnd v := by
 rw [vnd_eq v]
 have := le_sum vnd h
 omega
theorem zGn (v : zHl) : 100 + v.S.length + v.Names.length + sln v.Names + v.L.length ≤ vwt v := by rw [vwt_eq]; omega
theorem vnd_pos (v : zHl) : 1 ≤ vnd v := by rw [vnd_eq]; omega
theorem val_ind {T : zHl → Prop} (h : ∀ v, (∀ x, x ∈ v.L → T x) → T v) : ∀ v, T v := by
 have key : ∀ n v, vwt v ≤ n → T v := by
  intro n
  induction n with
  | zero => intro v hv; have := zGn v; omega
  | succ n ih => exact fun v hv => h v fun x hx => ih x (by have := zEV hx; omega)
 exact fun v => key (vwt v) v (Nat.le_refl _)
theorem len_vnd (v : zHl) : v.L.length + 1 ≤ vnd v := by
 rw [vnd_eq]
 have : v.L.length ≤ (v.L.map vnd).sum := by
  induction v.L with
  | nil => simp
  | cons x l ih => simp only [List.length_cons, List.map_cons, List.sum_cons]; have := vnd_pos x; omega
 omega
theorem zHa (l : List (List UInt8)) : ∀ (n i k : Nat), i + n = l.length → n + 1 ≤ k → ∃ o, zAK l k i = some o := by
 intro n
 induction n with
 | zero =>
  intro i k hi hk
  obtain ⟨k, rfl⟩ : ∃ q, k = q + 1 := ⟨k - 1, by omega⟩
  rw [zAK, if_neg (ltN (by omega))]
  exact ⟨_, rfl⟩
 | succ n ihn =>
  intro i k hi hk
  obtain ⟨k, rfl⟩ : ∃ q, k = q + 1 := ⟨k - 1, by omega⟩
  have hx : l[i]? = some l[i] := List.getElem?_eq_getElem (by omega)
  rw [zAK, if_pos (ltP (by omega)), hx, zAf, zCU, zAf]
  split
  ·exact ⟨_, rfl⟩
  ·exact ihn (i + 1) k (by omega) (by omega)
theorem hugeNames_M (l : List (List UInt8)) {fuel : Nat} (hf : l.length + 1 ≤ fuel) : ∃ b, zAW fuel l = some b := by
 obtain ⟨o, ho⟩ := zHa l l.length 0 fuel (by omega) hf
 rw [zAW, zAi, ho, zAf]
 cases o <;> exact ⟨_, rfl⟩
theorem huge_loop (v : zHl) (d : Int) (g : Nat) (hd : 0 ≤ d) (hd2 : d ≤ 60) (ih : ∀ x, x ∈ v.L → ∀ c : Int, 0 ≤ c → c ≤ 400 → ∃ w : Int, zAj g x (d + 1) c = some w ∧ 0 ≤ w ∧ (w ≤ 400 → w = c + vnd x)) :
  ∀ (n i k : Nat) (a : Int), i + n = v.L.length → n + 1 ≤ k → 0 ≤ a → ∃ w : Int, zAs (zAj g) v d k a i = some w ∧ 0 ≤ w ∧ (w ≤ 400 → w = a + ((v.L.drop i).map vnd).sum) := by
 intro n
 induction n with
 | zero =>
  intro i k a hi hk ha
  obtain ⟨k, rfl⟩ : ∃ q, k = q + 1 := ⟨k - 1, by omega⟩
  rw [zAs, show ltI (i : Int) (v.L.length : Int) = false from decide_eq_false (by omega), List.drop_eq_nil_of_le (by omega)]
  exact ⟨a, rfl, ha, fun _ => by simp⟩
 | succ n ihn =>
  intro i k a hi hk ha
  obtain ⟨k, rfl⟩ : ∃ q, k = q + 1 := ⟨k - 1, by omega⟩
  have hx : v.L[i]? = some v.L[i] := List.getElem?_eq_getElem (by omega)
  rw [zAs, show ltI (i : Int) (v.L.length : Int) = true from decide_eq_true (by omega), zEb vnd v.L i (by omega)]
  by_cases h2 : a ≤ 400
  ·rw [show leI a 400 = true from decide_eq_true h2, Bool.and_self, if_pos rfl, hx, zAf, chk64 (by omega) (by omega), zAf]
   obtain ⟨w, h3, h4, h5⟩ := ih v.L[i] (List.getElem_mem _) a ha h2
   rw [h3, zAf]
   obtain ⟨u, h6, h7, h8⟩ := ihn (i + 1) k w (by omega) (by omega) h4
   refine ⟨u, h6, h7, fun hu => ?_⟩
   have h9 := h8 hu
   have : w ≤ 400 := by omega
   rw [h9, h5 this]; omega
  ·rw [show leI a 400 = false from decide_eq_false h2]
   exact ⟨a, rfl, ha, fun h => absurd h h2⟩
theorem huge_M (v : zHl) : ∀ (fuel : Nat) (d c : Int), vwt v ≤ fuel → 0 ≤ d → d ≤ 61 → 0 ≤ c → c ≤ 400 → ∃ w : Int, zAj fuel v d c = some w ∧ 0 ≤ w ∧ (w ≤ 400 → w = c + vnd v) := by
 induction v using val_ind with
 | h v ih =>
  intro fuel d c hf hd hd2 hc hc2
  have hw := zGn v
  obtain ⟨g, rfl⟩ : ∃ g, fuel = g + 1 := ⟨fuel - 1, by omega⟩
  obtain ⟨hn, hn1⟩ := hugeNames_M v.Names (fuel := g) (by omega)
  rw [zAj, chk64 (by omega) (by omega), zAf, hn1]
  have key : ∀ b : Bool, (b = false → d ≤ 60) → ∃ w : Int, (if b = true then (zBB (zAj g) v d g 1000 0).bind fun o34 => some o34 else (zAs (zAj g) v d g (c + 1) 0).bind fun o63 => some o63) = some w ∧ 0 ≤ w ∧ (w ≤ 400 → w = c + vnd v) := by
   intro b hb
   cases b with
   | true =>
    obtain ⟨k, rfl⟩ : ∃ k, g = k + 1 := ⟨g - 1, by omega⟩
    rw [if_pos rfl, zBB, show leI (1000 : Int) 400 = false from rfl, Bool.and_false]
    exact ⟨1000, rfl, by omega, fun h => by omega⟩
   | false =>
    obtain ⟨w, h1, h2, h3⟩ := huge_loop v d g hd (hb rfl) (fun x hx c hc hc2 => ih x hx g (d + 1) c (by have := zEV hx; omega) (by omega) (by have := hb rfl; omega) hc hc2) v.L.length 0 g (c + 1) (by omega) (by omega) (by omega)
    rw [if_neg (by decide), h1, zAf]
    refine ⟨w, rfl, h2, fun hv => ?_⟩
    rw [h3 hv, vnd_eq, List.drop_zero]; omega
  split
  ·exact key true (fun h => by cases h)
  ·rename_i h60
   have h60 : d ≤ 60 := by
    have := ltF (by simpa using h60 : ltI 60 d = false)
    omega
   split
   ·exact key true (fun h => by cases h)
   ·split
    ·exact key true (fun h => by cases h)
    ·split
     ·exact key true (fun h => by cases h)
     ·rw [zAf, zAf]; exact key hn (fun _ => h60)
theorem Huge_M (v : zHl) {fuel : Nat} (hf : vwt v ≤ fuel) : ∃ b, zDC fuel v = some b ∧ (b = false → vnd v ≤ 400) := by
 obtain ⟨w, h1, h2, h3⟩ := huge_M v fuel 1 0 hf (by omega) (by omega) (by omega) (by omega)
 rw [zDC, h1, zAf]
 refine ⟨_, rfl, fun h => ?_⟩
 have := ltF h
 have := h3 this
 omega
theorem asc_loop (l : List (List UInt8)) : ∀ (n i k : Nat), i + n = l.length → n + 1 ≤ k → ∃ o, zAl l k (i + 1) = some o := by
 intro n
 induction n with
 | zero =>
  intro i k hi hk
  obtain ⟨k, rfl⟩ : ∃ q, k = q + 1 := ⟨k - 1, by omega⟩
  rw [zAl, if_neg (ltN (by omega))]
  exact ⟨_, rfl⟩
 | succ n ihn =>
  intro i k hi hk
  obtain ⟨k, rfl⟩ : ∃ q, k = q + 1 := ⟨k - 1, by omega⟩
  rw [zAl]
  by_cases hlt : i + 1 < l.length
  ·have hx : l[i + 1]? = some l[i + 1] := List.getElem?_eq_getElem hlt
   have hy : idx l (((i + 1 : Nat) : Int) - 1) = some l[i] := by
    rw [show ((i + 1 : Nat) : Int) - 1 = (i : Int) by omega, idxN]; exact List.getElem?_eq_getElem (by omega)
   rw [if_pos (ltP hlt), hy, zAf, hx, zAf]
   split
   ·exact ⟨_, rfl⟩
   ·exact ihn (i + 1) k (by omega) (by omega)
  ·rw [if_neg (ltN hlt)]
   exact ⟨_, rfl⟩
theorem Ascending_M (l : List (List UInt8)) {fuel : Nat} (hf : l.length + 1 ≤ fuel) : ∃ b, zBm fuel l = some b := by
 obtain ⟨o, ho⟩ := asc_loop l l.length 0 fuel (by omega) hf
 rw [zBm, ho, zAf]
 cases o <;> exact ⟨_, rfl⟩
theorem isLabel_loop (l : List UInt8) : ∀ (n i k : Nat), i + n = l.length → n + 1 ≤ k → ∃ o, zAu l k i = some o := by
 intro n
 induction n with
 | zero =>
  intro i k hi hk
  obtain ⟨k, rfl⟩ : ∃ q, k = q + 1 := ⟨k - 1, by omega⟩
  rw [zAu, if_neg (ltN (by omega))]
  exact ⟨_, rfl⟩
 | succ n ihn =>
  intro i k hi hk
  obtain ⟨k, rfl⟩ : ∃ q, k = q + 1 := ⟨k - 1, by omega⟩
  have hx : l[i]? = some l[i] := List.getElem?_eq_getElem (by omega)
  obtain ⟨m, hm, _⟩ := of_M l[i]
  rw [zAu, if_pos (ltP (by omega)), hx, zAf, hm, zAf]
  split
  ·exact ⟨_, rfl⟩
  ·exact ihn (i + 1) k (by omega) (by omega)
theorem IsLabel_M (s : List UInt8) {fuel : Nat} (hf : 60 ≤ fuel) : ∃ b, zBp fuel s = some b := by
 rw [zBp]
 split
 ·exact ⟨_, rfl⟩
 ·rename_i h
  have hl : s.length ≤ 48 := by
   rw [Bool.or_eq_true] at h
   have : ¬ ltI 48 (s.length : Int) = true := fun h' => h (.inr h')
   have := ltF (by simpa using this : ltI 48 (s.length : Int) = false)
   omega
  rw [bytesC, if_pos (by omega), zAf]
  obtain ⟨o, ho⟩ := isLabel_loop s s.length 0 fuel (by omega) (by omega)
  rw [ho, zAf]
  cases o <;> exact ⟨_, rfl⟩
theorem labels_loop (fuel : Nat) (hf : 60 ≤ fuel) (l : List (List UInt8)) : ∀ (n i k : Nat), i + n = l.length → n + 1 ≤ k → ∃ o, zAJ fuel l k i = some o := by
 intro n
 induction n with
 | zero =>
  intro i k hi hk
  obtain ⟨k, rfl⟩ : ∃ q, k = q + 1 := ⟨k - 1, by omega⟩
  rw [zAJ, if_neg (ltN (by omega))]
  exact ⟨_, rfl⟩
 | succ n ihn =>
  intro i k hi hk
  obtain ⟨k, rfl⟩ : ∃ q, k = q + 1 := ⟨k - 1, by omega⟩
  have hx : l[i]? = some l[i] := List.getElem?_eq_getElem (by omega)
  obtain ⟨b, hb⟩ := IsLabel_M l[i] hf
  rw [zAJ, if_pos (ltP (by omega)), hx, zAf, zCR, hb, zAf, zAf]
  split
  ·exact ⟨_, rfl⟩
  ·exact ihn (i + 1) k (by omega) (by omega)
theorem labels_M (l : List (List UInt8)) {fuel : Nat} (hf : 60 + l.length ≤ fuel) : ∃ b, zCS fuel l = some b ∧ (b = true → l.length ≤ 1000) := by
 obtain ⟨a, ha⟩ := Ascending_M l (fuel := fuel) (by omega)
 obtain ⟨o, ho⟩ := labels_loop fuel (by omega) l l.length 0 fuel (by omega) (by omega)
 have hc : ∃ c, zAV fuel l = some c := by
  rw [zAV, zAh, ho, zAf]
  cases o <;> exact ⟨_, rfl⟩
 obtain ⟨c, hc⟩ := hc
 rw [zCS, ha, zAf, hc]
 by_cases h : l.length ≤ 1000
 ·rw [if_pos (show leI (l.length : Int) 1000 = true from decide_eq_true (by omega))]
  cases a <;> exact ⟨_, rfl, fun _ => h⟩
 ·rw [if_neg (show ¬ leI (l.length : Int) 1000 = true from fun h' => h (by have := leT h'; omega))]
  exact ⟨false, rfl, fun h => by cases h⟩
def vnP (v : zHl) : Prop := v.Names.length ≤ 1000 ∧ (v.Op = 5 → v.L.length = 1) ∧ (v.Op = 4 → v.L.length = 1)
theorem zFW (n s : Bool) (v : zHl) : ∃ b, zAn n s false v = some b ∧ (b = true → v.Names.length ≤ 1000) := by
 rw [zAn]
 refine ⟨_, rfl, fun h => ?_⟩
 have : eqI (v.Names.length : Int) 0 = true := by
  cases n <;> cases s <;> simp only [Bool.false_or, Bool.and_eq_true, if_true, if_false, Bool.false_eq_true] at h
  ·exact h.2.2
  ·exact h.2
  ·exact h.2
  ·exact h
 have := eqT this
 omega
theorem nodeK {A B : Prop} {x R : Option Bool} (h1 : ∃ b, x = some b ∧ (b = true → A)) (h2 : A → ∃ b, R = some b ∧ (b = true → B)) :
  ∃ b, ((x.bind fun y => if y = true then R else some false).bind fun b => some b) = some b ∧ (b = true → B) := by
 obtain ⟨b, rfl, h1⟩ := h1
 cases b with
 | false => exact ⟨false, rfl, fun h => by cases h⟩
 | true =>
  obtain ⟨c, rfl, h3⟩ := h2 (h1 rfl)
  exact ⟨c, rfl, h3⟩
theorem value_node_M (v : zHl) {fuel : Nat} (hf : 60 + v.Names.length ≤ fuel) : ∃ b, zC8 fuel v = some b ∧ (b = true → vnP v) := by
 obtain ⟨lb, hlb, hlb2⟩ := labels_M v.Names (fuel := fuel) (by omega)
 obtain ⟨il, hil⟩ := IsLabel_M v.S (fuel := fuel) (by omega)
 have no : ∃ b, (some false : Option Bool) = some b ∧ (b = true → vnP v) := ⟨false, rfl, fun h => by cases h⟩
 rw [zC8]
 by_cases h1 : v.Op = 1
 ·rw [if_pos (show eqI v.Op 1 = true from decide_eq_true h1)]
  refine nodeK (zFW _ _ v) fun hnm => ?_
  have hP : vnP v := ⟨hnm, fun h => by omega, fun h => by omega⟩
  repeat' split
  all_goals exact ⟨_, rfl, fun _ => hP⟩
 rw [if_neg (show ¬ eqI v.Op 1 = true from fun h => h1 (eqT h))]
 by_cases h2 : v.Op = 2
 ·rw [if_pos (show eqI v.Op 2 = true from decide_eq_true h2)]
  refine nodeK (zFW _ _ v) fun hnm => ?_
  have hP : vnP v := ⟨hnm, fun h => by omega, fun h => by omega⟩
  repeat' split
  all_goals exact ⟨_, rfl, fun _ => hP⟩
 rw [if_neg (show ¬ eqI v.Op 2 = true from fun h => h2 (eqT h))]
 by_cases h3 : v.Op = 3
 ·rw [if_pos (show eqI v.Op 3 = true from decide_eq_true h3), zDI, zAf]
  split
  ·exact nodeK (zFW _ _ v) fun hnm => ⟨_, rfl, fun _ => ⟨hnm, fun h => by omega, fun h => by omega⟩⟩
  ·refine nodeK (A := True) ⟨_, rfl, fun _ => trivial⟩ fun _ => ?_
   rw [hlb, zAf]
   cases lb with
   | true => exact ⟨_, rfl, fun _ => ⟨hlb2 rfl, fun h => by omega, fun h => by omega⟩⟩
   | false => exact no
 rw [if_neg (show ¬ eqI v.Op 3 = true from fun h => h3 (eqT h))]
 by_cases h4 : v.Op = 4
 ·rw [if_pos (show eqI v.Op 4 = true from decide_eq_true h4), zCv, zAf]
  split
  ·refine nodeK (zFW _ _ v) fun hnm => ?_
   split
   ·rename_i hl
    have hl := eqT hl
    have hP : vnP v := ⟨hnm, fun h => by omega, fun h => by omega⟩
    split
    all_goals exact ⟨_, rfl, fun _ => hP⟩
   ·exact no
  ·refine nodeK (zFW _ _ v) fun hnm => ?_
   split
   ·rename_i hl
    have hl := eqT hl
    rw [hil, zAf]
    exact ⟨_, rfl, fun _ => ⟨hnm, fun h => by omega, fun h => by omega⟩⟩
   ·exact no
 rw [if_neg (show ¬ eqI v.Op 4 = true from fun h => h4 (eqT h))]
 by_cases h5 : v.Op = 5
 ·rw [if_pos (show eqI v.Op 5 = true from decide_eq_true h5)]
  exact nodeK (zFW _ _ v) fun hnm => ⟨_, rfl, fun h => ⟨hnm, fun _ => by have := eqT h; omega, fun h => by omega⟩⟩
 rw [if_neg (show ¬ eqI v.Op 5 = true from fun h => h5 (eqT h))]
 by_cases h6 : v.Op = 6
 ·rw [if_pos (show eqI v.Op 6 = true from decide_eq_true h6)]
  exact nodeK (zFW _ _ v) fun hnm => ⟨_, rfl, fun h => ⟨hnm, fun _ => by omega, fun h => by omega⟩⟩
 rw [if_neg (show ¬ eqI v.Op 6 = true from fun h => h6 (eqT h))]
 split
 ·exact nodeK (zFW _ _ v) fun hnm => ⟨_, rfl, fun h => ⟨hnm, fun _ => by omega, fun h => by omega⟩⟩
 ·exact no
inductive Vok : zHl → Prop
 | mk (v : zHl) (h : vnP v) (hs : ∀ x, x ∈ v.L → Vok x) : Vok v
theorem Vok.here {v : zHl} (h : Vok v) : vnP v := by cases h; assumption
theorem Vok.part {v x : zHl} (h : Vok v) (hx : x ∈ v.L) : Vok x := by cases h with | mk _ _ hs => exact hs x hx
theorem right_loop (v : zHl) (d : Int) (F : zHl → Int → Int → Option (Bool × Int))
  (ih : ∀ x, x ∈ v.L → ∀ c : Int, (vnd x : Int) - 1000000 ≤ c → c ≤ 20000 → ∃ b c', F x d c = some (b, c') ∧ c - vnd x ≤ c' ∧ c' ≤ c ∧ (b = false → Vok x)) :
  ∀ (n i k : Nat) (c : Int), i + n = v.L.length → n + 1 ≤ k → (((v.L.drop i).map vnd).sum : Int) - 1000000 ≤ c → c ≤ 20000 →
   ∃ o, zAI F v.L d k c i = some o ∧ ((∃ m c', o = .inl (m, c') ∧ 0 ≤ m ∧ c - ((v.L.drop i).map vnd).sum ≤ c' ∧ c' ≤ c) ∨ (∃ c', o = .inr c' ∧ c - ((v.L.drop i).map vnd).sum ≤ c' ∧ c' ≤ c ∧ ∀ x, x ∈ v.L.drop i → Vok x)) := by
 intro n
 induction n with
 | zero =>
  intro i k c hi hk hc hc2
  obtain ⟨k, rfl⟩ : ∃ q, k = q + 1 := ⟨k - 1, by omega⟩
  rw [List.drop_eq_nil_of_le (by omega)]
  rw [zAI, if_neg (ltN (by omega))]
  exact ⟨_, rfl, .inr ⟨c, rfl, by simp, by omega, fun x hx => by cases hx⟩⟩
 | succ n ihn =>
  intro i k c hi hk hc hc2
  obtain ⟨k, rfl⟩ : ∃ q, k = q + 1 := ⟨k - 1, by omega⟩
  have hx : v.L[i]? = some v.L[i] := List.getElem?_eq_getElem (by omega)
  rw [zEb vnd v.L i (by omega)] at hc ⊢
  obtain ⟨b, c', h1, h2, h3, h4⟩ := ih v.L[i] (List.getElem_mem _) c (by omega) hc2
  rw [zAI, if_pos (ltP (by omega)), hx, zAf, h1, zAf]
  cases b with
  | true => exact ⟨_, rfl, .inl ⟨_, c', rfl, by omega, by omega, h3⟩⟩
  | false =>
   simp only [Bool.false_eq_true, if_false]
   obtain ⟨o, h5, h6⟩ := ihn (i + 1) k c' (by omega) (by omega) (by omega) (by omega)
   refine ⟨o, h5, ?_⟩
   rcases h6 with ⟨m, c2, rfl, h7, h8, h9⟩ | ⟨c2, rfl, h7, h8, h9⟩
   ·exact .inl ⟨m, c2, rfl, h7, by omega, by omega⟩
   ·refine .inr ⟨c2, rfl, by omega, by omega, fun x hxm => ?_⟩
    rw [List.drop_eq_getElem_cons (by omega)] at hxm
    rcases List.mem_cons.1 hxm with rfl | hxm
    ·exact h4 rfl
    ·exact h9 x hxm
theorem right_M (v : zHl) : ∀ (fuel : Nat) (d c : Int), vwt v ≤ fuel → 0 ≤ d → d ≤ 400 → (vnd v : Int) - 1000000 ≤ c → c ≤ 20000 → ∃ b c', zBg fuel v d c = some (b, c') ∧ c - vnd v ≤ c' ∧ c' ≤ c ∧ (b = true → Vok v) := by
 induction v using val_ind with
 | h v ih =>
  intro fuel d c hf hd hd2 hc hc2
  have hw := zGn v
  have hp := vnd_pos v
  have hve := vnd_eq v
  obtain ⟨g, rfl⟩ : ∃ g, fuel = g + 3 + 1 := ⟨fuel - 4, by omega⟩
  obtain ⟨nb, hn1, hn2⟩ := value_node_M v (fuel := g + 3) (by omega)
  rw [zBg, chk64 (by omega) (by omega), zAf, hn1]
  by_cases h1 : c - 1 < 0
  ·rw [if_pos (show ltI (c - 1) 0 = true from decide_eq_true h1), zAf, if_pos rfl]
   exact ⟨false, c - 1, rfl, by omega, by omega, fun h => by cases h⟩
  rw [if_neg (show ¬ ltI (c - 1) 0 = true from fun h => h1 (ltT h))]
  by_cases h2 : d = 0
  ·rw [if_pos (show eqI d 0 = true from decide_eq_true h2), zAf, if_pos rfl]
   exact ⟨false, c - 1, rfl, by omega, by omega, fun h => by cases h⟩
  rw [if_neg (show ¬ eqI d 0 = true from fun h => h2 (eqT h)), zAf, zAf]
  cases nb with
  | false => exact ⟨false, c - 1, rfl, by omega, by omega, fun h => by cases h⟩
  | true =>
   rw [if_neg (by decide), zAU, zAZ]
   obtain ⟨o, h5, h6⟩ := right_loop v d (zBT (g + 1)) (fun x hx c hc hc2 => by
    obtain ⟨b, c', h7, h8, h9, h10⟩ := ih x hx g (d - 1) c (by have := zEV hx; omega) (by omega) (by omega) hc hc2
    refine ⟨!b, c', ?_, h8, h9, fun h => h10 (by simpa using h)⟩
    rw [zBT, chk64 (by omega) (by omega), zAf, h7, zAf]) v.L.length 0 (g + 1) (c - 1) (by omega) (by omega) (by rw [List.drop_zero]; omega) (by omega)
   rw [List.drop_zero] at h6
   rw [h5, zAf]
   rcases h6 with ⟨m, c2, rfl, h7, h8, h9⟩ | ⟨c2, rfl, h7, h8, h9⟩
   ·refine ⟨!(leI 0 m), c2, rfl, by omega, by omega, fun h => ?_⟩
    rw [show leI 0 m = true from decide_eq_true h7] at h; cases h
   ·exact ⟨true, c2, rfl, by omega, by omega, fun _ => .mk v (hn2 rfl) h9⟩
theorem VValid_M (v : zHl) {fuel : Nat} (hf : vwt v ≤ fuel) (hs : vnd v ≤ 400) : ∃ b, zBv fuel v = some b ∧ (b = true → Vok v) := by
 obtain ⟨b, c', h1, _, _, h2⟩ := right_M v fuel 400 20000 hf (by omega) (by omega) (by omega) (by omega)
 rw [zBv, h1, zAf]
 exact ⟨b, rfl, h2⟩
inductive Cov : zHm → zHm → Prop
 | any {p q : zHm} (h : p.Op = 1 ∨ p.Op = 2) : Cov p q
 | node {p q : zHm} (h1 : p.Op = q.Op) (h2 : p.N = q.N) (h3 : p.S = q.S) (h4 : p.L.length = q.L.length) (hs : ∀ (i : Nat) (x y : zHm), p.L[i]? = some x → q.L[i]? = some y → Cov x y) : Cov p q
theorem Cov.inv {p q : zHm} (h : Cov p q) : (p.Op = 1 ∨ p.Op = 2) ∨ (p.Op = q.Op ∧ p.N = q.N ∧ p.S = q.S ∧ p.L.length = q.L.length ∧ ∀ (i : Nat) (x y : zHm), p.L[i]? = some x → q.L[i]? = some y → Cov x y) := by
 cases h with
 | any h => exact .inl h
 | node h1 h2 h3 h4 hs => exact .inr ⟨h1, h2, h3, h4, hs⟩
theorem Cov.refl (p : zHm) : Cov p p := by
 induction p using zDO with
 | h p ih =>
  refine .node rfl rfl rfl rfl fun i x y hx hy => ?_
  rw [hx] at hy; cases hy
  exact ih x (List.mem_of_getElem? hx)
theorem Cov.trans (p : zHm) : ∀ q s, Cov p q → Cov q s → Cov p s := by
 induction p using zDO with
 | h p ih =>
  intro q s h1 h2
  rcases h1.inv with h1 | ⟨e1, e2, e3, e4, hs⟩
  ·exact .any h1
  ·rcases h2.inv with h2 | ⟨f1, f2, f3, f4, hs2⟩
   ·exact .any (by rw [e1]; exact h2)
   ·refine .node (e1.trans f1) (e2.trans f2) (e3.trans f3) (e4.trans f4) fun i x z hx hz => ?_
    have hi : i < q.L.length := by rw [f4]; exact (List.getElem?_eq_some_iff.1 hz).1
    have hy : q.L[i]? = some q.L[i] := List.getElem?_eq_getElem hi
    exact ih x (List.mem_of_getElem? hx) q.L[i] z (hs i x _ hx hy) (hs2 i _ z hy hz)
theorem cov_loop (F : zHm → zHm → Option Bool) (s t : List zHm) (hl : s.length = t.length) (ih : ∀ x, x ∈ s → ∀ y, ∃ v, F x y = some v ∧ (v = true ↔ Cov x y)) :
  ∀ (n i k : Nat), i + n = s.length → n + 1 ≤ k → ∃ o, zAM F s t k i = some o ∧ ((o = .inr () ∧ ∀ (j : Nat) (x y : zHm), i ≤ j → s[j]? = some x → t[j]? = some y → Cov x y) ∨ (o = .inl false ∧ ∃ (j : Nat) (x y : zHm), s[j]? = some x ∧ t[j]? = some y ∧ ¬ Cov x y)) := by
 intro n
 induction n with
 | zero =>
  intro i k hi hk
  obtain ⟨k, rfl⟩ : ∃ q, k = q + 1 := ⟨k - 1, by omega⟩
  rw [zAM, if_neg (ltN (by omega))]
  exact ⟨_, rfl, .inl ⟨rfl, fun j x y hj hx _ => by have := (List.getElem?_eq_some_iff.1 hx).1; omega⟩⟩
 | succ n ihn =>
  intro i k hi hk
  obtain ⟨k, rfl⟩ : ∃ q, k = q + 1 := ⟨k - 1, by omega⟩
  have hx : s[i]? = some s[i] := List.getElem?_eq_getElem (by omega)
  have hy : t[i]? = some t[i] := List.getElem?_eq_getElem (by omega)
  obtain ⟨v, h1, h2⟩ := ih s[i] (List.getElem_mem _) t[i]
  rw [zAM, if_pos (ltP (by omega)), hx, zAf, hy, zAf, h1, zAf]
  cases v with
  | false => exact ⟨_, rfl, .inr ⟨rfl, i, _, _, hx, hy, fun h => by have := h2.2 h; cases this⟩⟩
  | true =>
   simp only [Bool.not_true, Bool.false_eq_true, if_false]
   obtain ⟨o, h3, h4⟩ := ihn (i + 1) k (by omega) (by omega)
   refine ⟨o, h3, ?_⟩
   rcases h4 with ⟨q1, q2⟩ | h4
   ·refine .inl ⟨q1, fun j x y hj hxj hyj => ?_⟩
    by_cases e : j = i
    ·subst e; rw [hx] at hxj; rw [hy] at hyj; cases hxj; cases hyj; exact h2.1 rfl
    ·exact q2 j x y (by omega) hxj hyj
   ·exact .inr h4
theorem rcov_loop (F : zHm → zHm → Option Bool) (p q : zHm) (hl : p.L.length = q.L.length) (ih : ∀ x, x ∈ p.L → ∀ y, ∃ v, F x y = some v ∧ (v = true ↔ Cov x y)) :
  ∀ (n i k : Nat), i + n = p.L.length → n + 1 ≤ k → ∃ o, zAy F p q k i = some o ∧ ((o = .inr () ∧ ∀ (j : Nat) (x y : zHm), i ≤ j → p.L[j]? = some x → q.L[j]? = some y → Cov x y) ∨ (o = .inl false ∧ ∃ (j : Nat) (x y : zHm), p.L[j]? = some x ∧ q.L[j]? = some y ∧ ¬ Cov x y)) := by
 intro n
 induction n with
 | zero =>
  intro i k hi hk
  obtain ⟨k, rfl⟩ : ∃ q, k = q + 1 := ⟨k - 1, by omega⟩
  rw [zAy, if_neg (ltN (by omega))]
  exact ⟨_, rfl, .inl ⟨rfl, fun j x y hj hx _ => by have := (List.getElem?_eq_some_iff.1 hx).1; omega⟩⟩
 | succ n ihn =>
  intro i k hi hk
  obtain ⟨k, rfl⟩ : ∃ q, k = q + 1 := ⟨k - 1, by omega⟩
  have hx : p.L[i]? = some p.L[i] := List.getElem?_eq_getElem (by omega)
  have hy : q.L[i]? = some q.L[i] := List.getElem?_eq_getElem (by omega)
  obtain ⟨v, h1, h2⟩ := ih p.L[i] (List.getElem_mem _) q.L[i]
  rw [zAy, if_pos (ltP (by omega)), hx, zAf, hy, zAf, h1, zAf]
  cases v with
  | false => exact ⟨_, rfl, .inr ⟨rfl, i, _, _, hx, hy, fun h => by have := h2.2 h; cases this⟩⟩
  | true =>
   simp only [Bool.not_true, Bool.false_eq_true, if_false]
   obtain ⟨o, h3, h4⟩ := ihn (i + 1) k (by omega) (by omega)
   refine ⟨o, h3, ?_⟩
   rcases h4 with ⟨q1, q2⟩ | h4
   ·refine .inl ⟨q1, fun j x y hj hxj hyj => ?_⟩
    by_cases e : j = i
    ·subst e; rw [hx] at hxj; rw [hy] at hyj; cases hxj; cases hyj; exact h2.1 rfl
    ·exact q2 j x y (by omega) hxj hyj
   ·exact .inr h4
theorem lenQ (s t : List zHm) : eqI (s.length : Int) (t.length : Int) = decide (s.length = t.length) := lenI s t.length
theorem covers_M (p : zHm) : ∀ (fuel : Nat) (q : zHm), wt p ≤ fuel → ∃ v, zAq fuel p q = some v ∧ (v = true ↔ Cov p q) := by
 induction p using zDO with
 | h p ih =>
  intro fuel q hf
  have hw := zFr p
  obtain ⟨g, rfl⟩ : ∃ g, fuel = g + 1 + 1 := ⟨fuel - 2, by omega⟩
  rw [zAq]
  by_cases h0 : p.Op = 1 ∨ p.Op = 2
  ·rw [if_pos (show (eqI p.Op 1 || eqI p.Op 2) = true from by rw [Bool.or_eq_true]; exact h0.imp (fun h => decide_eq_true h) (fun h => decide_eq_true h))]
   exact ⟨true, rfl, by simp [Cov.any h0]⟩
  rw [if_neg (show ¬ (eqI p.Op 1 || eqI p.Op 2) = true from fun h => h0 (by rw [Bool.or_eq_true] at h; exact h.imp (fun h => eqT h) (fun h => eqT h)))]
  have no : ∀ {A : Prop}, (Cov p q → A → False) → A → ∃ v, (some false : Option Bool).bind (fun b => some b) = some v ∧ (v = true ↔ Cov p q) := fun h a => ⟨false, rfl, by simp; exact fun hc => h hc a⟩
  by_cases h1 : p.Op = q.Op
  rotate_left
  ·rw [if_neg (show ¬ eqI p.Op q.Op = true from fun h => h1 (eqT h))]
   exact no (fun hc ha => by rcases hc.inv with h | h; exact h0 h; exact ha h.1) h1
  rw [if_pos (show eqI p.Op q.Op = true from decide_eq_true h1)]
  by_cases h2 : p.N = q.N
  rotate_left
  ·rw [if_neg (show ¬ eqI p.N q.N = true from fun h => h2 (eqT h))]
   exact no (fun hc ha => by rcases hc.inv with h | h; exact h0 h; exact ha h.2.1) h2
  rw [if_pos (show eqI p.N q.N = true from decide_eq_true h2)]
  by_cases h3 : p.S = q.S
  rotate_left
  ·rw [if_neg (show ¬ eqS p.S q.S = true from fun h => h3 (of_decide_eq_true h))]
   exact no (fun hc ha => by rcases hc.inv with h | h; exact h0 h; exact ha h.2.2.1) h3
  rw [if_pos (show eqS p.S q.S = true from decide_eq_true h3), zAc, lenQ]
  by_cases h4 : p.L.length = q.L.length
  rotate_left
  ·rw [decide_eq_false h4]
   exact no (fun hc ha => by rcases hc.inv with h | h; exact h0 h; exact ha h.2.2.2.1) h4
  rw [decide_eq_true h4]
  obtain ⟨o, h5, h6⟩ := cov_loop (zAq g) p.L q.L h4 (fun x hx y => ih x hx g y (by have := zFX hx; omega)) p.L.length 0 g (by omega) (by omega)
  simp only [Bool.not_true, Bool.false_eq_true, if_false]
  rw [h5, zAf]
  rcases h6 with ⟨rfl, h6⟩ | ⟨rfl, j, x, y, hx, hy, h6⟩
  ·exact ⟨true, rfl, by simp; exact .node h1 h2 h3 h4 fun i x y hx hy => h6 i x y (Nat.zero_le _) hx hy⟩
  ·exact ⟨false, rfl, by simp; exact fun hc => by rcases hc.inv with h | h; exact h0 h; exact h6 (h.2.2.2.2 j x y hx hy)⟩
theorem RCovers_M (p : zHm) : ∀ (fuel : Nat) (q : zHm), wt p ≤ fuel → ∃ v, zBD fuel p q = some v ∧ (v = true ↔ Cov p q) := by
 induction p using zDO with
 | h p ih =>
  intro fuel q hf
  have hw := zFr p
  obtain ⟨g, rfl⟩ : ∃ g, fuel = g + 1 := ⟨fuel - 1, by omega⟩
  rw [zBD]
  by_cases h0 : p.Op = 1 ∨ p.Op = 2
  ·rw [if_pos (show (eqI p.Op 1 || eqI p.Op 2) = true from by rw [Bool.or_eq_true]; exact h0.imp (fun h => decide_eq_true h) (fun h => decide_eq_true h))]
   exact ⟨true, rfl, by simp [Cov.any h0]⟩
  rw [if_neg (show ¬ (eqI p.Op 1 || eqI p.Op 2) = true from fun h => h0 (by rw [Bool.or_eq_true] at h; exact h.imp (fun h => eqT h) (fun h => eqT h))), lenQ]
  have no : (¬ Cov p q) → ∃ v, (some false : Option Bool) = some v ∧ (v = true ↔ Cov p q) := fun h => ⟨false, rfl, by simp [h]⟩
  by_cases h1 : p.Op = q.Op
  rotate_left
  ·rw [show eqI p.Op q.Op = false from decide_eq_false h1]
   exact no (fun hc => by rcases hc.inv with h | h; exact h0 h; exact h1 h.1)
  rw [show eqI p.Op q.Op = true from decide_eq_true h1]
  by_cases h2 : p.N = q.N
  rotate_left
  ·rw [show eqI p.N q.N = false from decide_eq_false h2]
   exact no (fun hc => by rcases hc.inv with h | h; exact h0 h; exact h2 h.2.1)
  rw [show eqI p.N q.N = true from decide_eq_true h2]
  by_cases h3 : p.S = q.S
  rotate_left
  ·rw [show eqS p.S q.S = false from decide_eq_false h3]
   exact no (fun hc => by rcases hc.inv with h | h; exact h0 h; exact h3 h.2.2.1)
  rw [show eqS p.S q.S = true from decide_eq_true h3]
  by_cases h4 : p.L.length = q.L.length
  rotate_left
  ·rw [decide_eq_false h4]
   exact no (fun hc => by rcases hc.inv with h | h; exact h0 h; exact h4 h.2.2.2.1)
  rw [decide_eq_true h4]
  obtain ⟨o, h5, h6⟩ := rcov_loop (zBD g) p q h4 (fun x hx y => ih x hx g y (by have := zFX hx; omega)) p.L.length 0 g (by omega) (by omega)
  simp only [Bool.not_true, Bool.false_or, Bool.false_eq_true, if_false]
  rw [h5, zAf]
  rcases h6 with ⟨rfl, h6⟩ | ⟨rfl, j, x, y, hx, hy, h6⟩
  ·exact ⟨true, rfl, by simp; exact .node h1 h2 h3 h4 fun i x y hx hy => h6 i x y (Nat.zero_le _) hx hy⟩
  ·exact ⟨false, rfl, by simp; exact fun hc => by rcases hc.inv with h | h; exact h0 h; exact h6 (h.2.2.2.2 j x y hx hy)⟩
theorem zHk (p q : zHm) {fuel : Nat} (hf : wt p ≤ fuel) (hf2 : wt q ≤ fuel) (hs : nds p ≤ 200) (hs2 : nds q ≤ 200) :
  ∃ v e, zAe fuel p q = some (v, e) ∧ (vld p = true ∧ vld q = true → e = 0 ∧ (v = true ↔ Cov p q)) ∧ (¬ (vld p = true ∧ vld q = true) → e = 1 ∧ v = false) := by
 obtain ⟨v, h1, h2⟩ := covers_M p fuel q hf
 rw [zAe, Valid_M p hf hs, zAf, Valid_M q hf2 hs2, h1]
 cases vld p with
 | false => exact ⟨false, 1, rfl, fun h => (by cases h.1), fun _ => ⟨rfl, rfl⟩⟩
 | true =>
  cases vld q with
  | false => exact ⟨false, 1, rfl, fun h => (by cases h.2), fun _ => ⟨rfl, rfl⟩⟩
  | true => exact ⟨v, 0, rfl, fun _ => ⟨rfl, h2⟩, fun h => absurd ⟨rfl, rfl⟩ h⟩
theorem numbered_loop (l : List (List UInt8)) (hl : l.length ≤ 1000000) : ∀ (n i k : Nat), i + n = l.length → n + 1 ≤ k → ∃ o, zAg l k i = some o := by
 intro n
 induction n with
 | zero =>
  intro i k hi hk
  obtain ⟨k, rfl⟩ : ∃ q, k = q + 1 := ⟨k - 1, by omega⟩
  rw [zAg, if_neg (ltN (by omega))]
  exact ⟨_, rfl⟩
 | succ n ihn =>
  intro i k hi hk
  obtain ⟨k, rfl⟩ : ∃ q, k = q + 1 := ⟨k - 1, by omega⟩
  have hx : l[i]? = some l[i] := List.getElem?_eq_getElem (by omega)
  rw [zAg, if_pos (ltP (by omega)), hx, zAf, itoa_M (i + 1) (by omega), zAf]
  split
  ·exact ⟨_, rfl⟩
  ·exact ihn (i + 1) k (by omega) (by omega)
theorem numbered_M (l : List (List UInt8)) (n : Int) {fuel : Nat} (hl : l.length ≤ 1000000) (hf : l.length + 1 ≤ fuel) : ∃ b, zBb fuel l n = some b := by
 obtain ⟨o, ho⟩ := numbered_loop l hl l.length 0 fuel (by omega) hf
 rw [zBb, ho, zAf]
 split
 ·exact ⟨_, rfl⟩
 ·cases o <;> exact ⟨_, rfl⟩
theorem copied_loop (v : zHl) (g : Nat) (hv : v.L.length ≤ 400) (ih : ∀ x, x ∈ v.L → ∃ y, zAr g x = some y) :
  ∀ (n i k : Nat) (c : List zHl), i + n = v.L.length → n + 1 ≤ k → c.length = i → ∃ o, zAp (zAr g) v k c i = some o := by
 intro n
 induction n with
 | zero =>
  intro i k c hi hk hc
  obtain ⟨k, rfl⟩ : ∃ q, k = q + 1 := ⟨k - 1, by omega⟩
  rw [zAp, if_neg (ltN (by omega))]
  exact ⟨_, rfl⟩
 | succ n ihn =>
  intro i k c hi hk hc
  obtain ⟨k, rfl⟩ : ∃ q, k = q + 1 := ⟨k - 1, by omega⟩
  have hx : v.L[i]? = some v.L[i] := List.getElem?_eq_getElem (by omega)
  obtain ⟨y, hy⟩ := ih v.L[i] (List.getElem_mem _)
  rw [zAp, if_pos (ltP (by omega)), hx, zAf, hy, zAf, zHf (by decide) (by simp only [List.length_cons, List.length_nil]; omega), zAf]
  exact ihn (i + 1) k _ (by omega) (by omega) (by simp [hc])
theorem copied_M (v : zHl) : ∀ fuel, vwt v ≤ fuel → Vok v → vnd v ≤ 400 → ∃ y, zAr fuel v = some y := by
 induction v using val_ind with
 | h v ih =>
  intro fuel hf hv hn
  have hw := zGn v
  have hl := len_vnd v
  obtain ⟨g, rfl⟩ : ∃ g, fuel = g + 1 := ⟨fuel - 1, by omega⟩
  obtain ⟨o, ho⟩ := copied_loop v g (by omega) (fun x hx => ih x hx g (by have := zEV hx; omega) (hv.part hx) (by have := zFs hx; omega)) v.L.length 0 g [] (by omega) (by omega) rfl
  have hc : ∃ c, zBX v.Names = some c := by
   have := hv.here.1
   cases hN : v.Names with
   | nil => exact ⟨_, rfl⟩
   | cons x s =>
    rw [hN] at this
    exact ⟨x :: s, by show clC 16 (x :: s) = _; rw [clC, if_pos ⟨by simp, by decide, by omega⟩]⟩
  obtain ⟨c, hc⟩ := hc
  rw [zAr, hc, zAf, ho, zAf]
  exact ⟨_, rfl⟩
theorem match_loop (p : zHm) (v : zHl) (g : Nat) (hl : v.L.length = p.L.length) (hp : nds p ≤ 200)
  (ih : ∀ x, x ∈ p.L → ∀ y, y ∈ v.L → ∀ l : List zHl, l.length + nds x ≤ 1000 → ∃ r, zAQ g x y l = some r ∧ r.1.length ≤ l.length + nds x) :
  ∀ (n i k : Nat) (l : List zHl), i + n = p.L.length → n + 1 ≤ k → l.length + ((p.L.drop i).map nds).sum ≤ 1000 →
   ∃ o, zAS (zAQ g) p v k l i = some o ∧ ((∃ r, o = .inl r ∧ r.1 = [] ∧ r.2.1 = false) ∨ ∃ l', o = .inr l' ∧ l'.length ≤ l.length + ((p.L.drop i).map nds).sum) := by
 intro n
 induction n with
 | zero =>
  intro i k l hi hk hb
  obtain ⟨k, rfl⟩ : ∃ q, k = q + 1 := ⟨k - 1, by omega⟩
  rw [zAS, if_neg (ltN (by omega))]
  exact ⟨_, rfl, .inr ⟨l, rfl, by omega⟩⟩
 | succ n ihn =>
  intro i k l hi hk hb
  obtain ⟨k, rfl⟩ : ∃ q, k = q + 1 := ⟨k - 1, by omega⟩
  have hx : p.L[i]? = some p.L[i] := List.getElem?_eq_getElem (by omega)
  have hy : v.L[i]? = some v.L[i] := List.getElem?_eq_getElem (by omega)
  rw [zEb nds p.L i (by omega)] at hb ⊢
  obtain ⟨r, h1, h2⟩ := ih p.L[i] (List.getElem_mem _) v.L[i] (List.getElem_mem _) l (by omega)
  rw [zAS, if_pos (ltP (by omega)), hx, zAf, hy, zAf, h1, zAf]
  split
  ·exact ⟨_, rfl, .inl ⟨_, rfl, rfl, rfl⟩⟩
  ·obtain ⟨o, h3, h4⟩ := ihn (i + 1) k r.1 (by omega) (by omega) (by omega)
   refine ⟨o, h3, ?_⟩
   rcases h4 with h4 | ⟨l', h4, h5⟩
   ·exact .inl h4
   ·exact .inr ⟨l', h4, by omega⟩
theorem match_M (p : zHm) : ∀ (fuel : Nat) (v : zHl) (l : List zHl), wt p + vwt v ≤ fuel → nok p = true → Vok v → nds p ≤ 200 → vnd v ≤ 400 → l.length + nds p ≤ 1000 →
  ∃ r, zAQ fuel p v l = some r ∧ r.1.length ≤ l.length + nds p := by
 induction p using zDO with
 | h p ih =>
  intro fuel v l hf hp hv hn hn2 hb
  have hw := zFr p
  have hw2 := zGn v
  have hnp := nds_pos p
  have hh := hv.here
  obtain ⟨hnb, hnk⟩ := nok_iff.1 hp
  obtain ⟨g, rfl⟩ : ∃ g, fuel = g + 1 := ⟨fuel - 1, by omega⟩
  rw [zAQ]
  by_cases h1 : p.Op = 1
  ·rw [if_pos (show eqI p.Op 1 = true from decide_eq_true h1)]
   exact ⟨_, rfl, by simp⟩
  rw [if_neg (show ¬ eqI p.Op 1 = true from fun h => h1 (eqT h))]
  by_cases h2 : p.Op = 2
  ·rw [if_pos (show eqI p.Op 2 = true from decide_eq_true h2)]
   obtain ⟨y, hy⟩ := copied_M v g (by omega) hv hn2
   rw [hy, zAf, zHf (by decide) (by simp only [List.length_cons, List.length_nil]; omega), zAf]
   exact ⟨_, rfl, by simp; omega⟩
  rw [if_neg (show ¬ eqI p.Op 2 = true from fun h => h2 (eqT h))]
  by_cases h3 : p.Op = 3
  ·rw [if_pos (show eqI p.Op 3 = true from decide_eq_true h3)]
   exact ⟨_, rfl, by simp⟩
  rw [if_neg (show ¬ eqI p.Op 3 = true from fun h => h3 (eqT h))]
  have fin : ∀ (b : Bool) (R : Option (List zHl × Bool × Bool)), (b = false → ∃ r, R = some r ∧ r.1.length ≤ l.length + nds p) →
    ∃ r, (if b = true then some (([] : List zHl), false, true) else R) = some r ∧ r.1.length ≤ l.length + nds p := fun b R h => by
   cases b with
   | true => exact ⟨_, rfl, by simp⟩
   | false => exact h rfl
  by_cases h5 : p.Op = 5
  ·rw [if_pos (show eqI p.Op 5 = true from decide_eq_true h5)]
   obtain ⟨nb, hnb2⟩ := numbered_M v.Names (p.L.length : Int) (fuel := g) (by have := hh.1; omega) (by omega)
   split
   ·exact ⟨_, rfl, by simp⟩
   ·split
    ·exact ⟨_, rfl, by simp⟩
    ·rename_i hlen
     have hlen : v.L.length = p.L.length := by
      have : eqI (v.L.length : Int) (p.L.length : Int) = true := by simpa using hlen
      have := eqT this
      omega
     rw [hnb2, zAf, zAf]
     refine fin _ _ fun _ => ?_
     obtain ⟨o, h6, h7⟩ := match_loop p v g hlen hn (fun x hx y hy l hl => ih x hx g y l (by have := zFX hx; have := zEV hy; omega) (hnk x hx) (hv.part hy) (by have := zE1 hx; omega) (by have := zFs hy; omega) hl)
      p.L.length 0 g l (by omega) (by omega) (by rw [List.drop_zero]; have := zGI p; omega)
     rw [h6, zAf]
     rw [List.drop_zero] at h7
     rcases h7 with ⟨r, rfl, h8, _⟩ | ⟨l', rfl, h8⟩
     ·exact ⟨r, rfl, by rw [h8]; simp⟩
     ·exact ⟨_, rfl, by have := zGI p; simp only; omega⟩
  rw [if_neg (show ¬ eqI p.Op 5 = true from fun h => h5 (eqT h))]
  split
  ·exact ⟨_, rfl, by simp⟩
  ·rename_i hroll
   have hroll : v.Op = 5 := eqT (by simpa using hroll)
   have hL := hh.2.1 hroll
   have hx : v.L[0]? = some v.L[0] := List.getElem?_eq_getElem (by omega)
   have hxm : v.L[0] ∈ v.L := List.getElem_mem _
   have hxv := hv.part hxm
   rw [hx, zAf]
   split
   ·exact ⟨_, rfl, by simp⟩
   ·rename_i hinj
    have hinj : v.L[0].Op = 4 := eqT (by simpa using hinj)
    have hL2 := hxv.here.2.2 hinj
    have hy : v.L[0].L[0]? = some v.L[0].L[0] := List.getElem?_eq_getElem (by omega)
    have hym : v.L[0].L[0] ∈ v.L[0].L := List.getElem_mem _
    rw [zAf]
    refine fin _ _ fun _ => ?_
    rw [zAf, hy, zAf]
    split
    ·exact ⟨_, rfl, by simp⟩
    ·split
     ·exact ⟨_, rfl, by simp⟩
     ·rename_i hne
      have hpl : 0 < p.L.length := by
       rcases Nat.eq_zero_or_pos p.L.length with h | h
       ·exact absurd (show eqI (p.L.length : Int) 0 = true from decide_eq_true (by omega)) hne
       ·exact h
      have hz : p.L[0]? = some p.L[0] := List.getElem?_eq_getElem hpl
      have hzm : p.L[0] ∈ p.L := List.getElem_mem _
      obtain ⟨r, h6, h7⟩ := ih p.L[0] hzm g v.L[0].L[0] l (by have := zFX hzm; have := zEV hxm; have := zEV hym; omega) (hnk _ hzm) (hxv.part hym) (by have := zE1 hzm; omega) (by have := zFs hxm; have := zFs hym; omega) (by have := zE1 hzm; omega)
      rw [hz, zAf, h6, zAf]
      exact ⟨_, rfl, by have := zE1 hzm; simp only; omega⟩
theorem bindS {α β : Type} {x : Option α} {f : α → Option β} {r : β} (h : x.bind f = some r) : ∃ a, x = some a ∧ f a = some r := by
 cases x with
 | none => cases h
 | some a => exact ⟨a, rfl, h⟩
theorem ml_inl (q : zHm) (v : zHl) (g : Nat) : ∀ (k : Nat) (l : List zHl) (i : Nat) {r : List zHl × Bool × Bool}, zAS (zAQ g) q v k l i = some (.inl r) → r.2.1 = false := by
 intro k
 induction k with
 | zero => intro l i r h; cases h
 | succ k ih =>
  intro l i r h
  rw [zAS] at h
  split at h
  ·obtain ⟨x, _, h⟩ := bindS h
   obtain ⟨y, _, h⟩ := bindS h
   obtain ⟨z, _, h⟩ := bindS h
   split at h
   ·cases h; rfl
   ·exact ih _ _ h
  ·cases h
theorem cm_loop (p q : zHm) (v : zHl) (g : Nat) (hl : v.L.length = p.L.length) (hq : q.L.length = p.L.length)
  (ih : ∀ (i : Nat) (x z : zHm) (y : zHl), p.L[i]? = some x → q.L[i]? = some z → v.L[i]? = some y → ∀ (l1 l2 : List zHl) (r : List zHl × Bool × Bool), l2.length + nds x ≤ 1000 → zAQ g z y l1 = some r → r.2.1 = true → ∃ o, zAQ g x y l2 = some (o, true, false) ∧ o.length ≤ l2.length + nds x) :
  ∀ (n i k : Nat) (l1 l2 l' : List zHl), i + n = p.L.length → n + 1 ≤ k → l2.length + ((p.L.drop i).map nds).sum ≤ 1000 → zAS (zAQ g) q v k l1 i = some (.inr l') → ∃ l'', zAS (zAQ g) p v k l2 i = some (.inr l'') := by
 intro n
 induction n with
 | zero =>
  intro i k l1 l2 l' hi hk hb h
  obtain ⟨k, rfl⟩ : ∃ q, k = q + 1 := ⟨k - 1, by omega⟩
  rw [zAS, if_neg (ltN (by omega))]
  exact ⟨_, rfl⟩
 | succ n ihn =>
  intro i k l1 l2 l' hi hk hb h
  obtain ⟨k, rfl⟩ : ∃ q, k = q + 1 := ⟨k - 1, by omega⟩
  have hx : p.L[i]? = some p.L[i] := List.getElem?_eq_getElem (by omega)
  have hz : q.L[i]? = some q.L[i] := List.getElem?_eq_getElem (by omega)
  have hy : v.L[i]? = some v.L[i] := List.getElem?_eq_getElem (by omega)
  rw [zEb nds p.L i (by omega)] at hb
  rw [zAS, if_pos (ltP (by omega)), hz, zAf, hy, zAf] at h
  obtain ⟨r, h1, h2⟩ := bindS h
  have hr : r.2.1 = true := by
   cases hc : r.2.1 with
   | true => rfl
   | false => rw [hc] at h2; cases h2
  rw [hr] at h2
  obtain ⟨o, h3, h4⟩ := ih i _ _ _ hx hz hy l1 l2 r (by omega) h1 hr
  rw [zAS, if_pos (ltP (by omega)), hx, zAf, hy, zAf, h3, zAf]
  exact ihn (i + 1) k r.1 o l' (by omega) (by omega) (by omega) h2
theorem cov_match (p : zHm) : ∀ (q : zHm) (fuel : Nat) (v : zHl) (l1 l2 : List zHl) (r : List zHl × Bool × Bool), Cov p q → wt p + vwt v ≤ fuel → nok p = true → Vok v → nds p ≤ 200 → vnd v ≤ 400 → l2.length + nds p ≤ 1000 →
  zAQ fuel q v l1 = some r → r.2.1 = true → ∃ o, zAQ fuel p v l2 = some (o, true, false) ∧ o.length ≤ l2.length + nds p := by
 induction p using zDO with
 | h p ih =>
  intro q fuel v l1 l2 r hc hf hp hv hn hn2 hb hm hr
  obtain ⟨r2, hm2, hlen⟩ := match_M p fuel v l2 hf hp hv hn hn2 hb
  have hw := zFr p
  have hw2 := zGn v
  have hnp := nds_pos p
  have hh := hv.here
  obtain ⟨hnb, hnk⟩ := nok_iff.1 hp
  obtain ⟨g, rfl⟩ : ∃ g, fuel = g + 1 := ⟨fuel - 1, by omega⟩
  suffices hs : r2.2 = (true, false) from ⟨r2.1, by rw [hm2]; congr 1; rw [← hs], hlen⟩
  rw [zAQ] at hm2
  by_cases h1 : p.Op = 1
  ·rw [if_pos (show eqI p.Op 1 = true from decide_eq_true h1)] at hm2
   cases hm2; rfl
  rw [if_neg (show ¬ eqI p.Op 1 = true from fun h => h1 (eqT h))] at hm2
  by_cases h2 : p.Op = 2
  ·rw [if_pos (show eqI p.Op 2 = true from decide_eq_true h2)] at hm2
   obtain ⟨y, hy, hm2⟩ := bindS hm2
   obtain ⟨z, hz, hm2⟩ := bindS hm2
   cases hm2; rfl
  rw [if_neg (show ¬ eqI p.Op 2 = true from fun h => h2 (eqT h))] at hm2
  rcases hc.inv with hc | ⟨c1, c2, c3, c4, hc⟩
  ·omega
  rw [zAQ, if_neg (show ¬ eqI q.Op 1 = true from fun h => h1 (by rw [c1]; exact eqT h)), if_neg (show ¬ eqI q.Op 2 = true from fun h => h2 (by rw [c1]; exact eqT h))] at hm
  by_cases h3 : p.Op = 3
  ·rw [if_pos (show eqI p.Op 3 = true from decide_eq_true h3)] at hm2
   rw [if_pos (show eqI q.Op 3 = true from decide_eq_true (by rw [← c1]; exact h3))] at hm
   cases hm; cases hm2
   rw [← c2] at hr
   show (eqI v.Op 1 && eqI v.N p.N, !(eqI v.Op 1)) = (true, false)
   have hr : (eqI v.Op 1 && eqI v.N p.N) = true := hr
   rw [hr]
   rw [Bool.and_eq_true] at hr
   rw [hr.1]; rfl
  rw [if_neg (show ¬ eqI p.Op 3 = true from fun h => h3 (eqT h))] at hm2
  rw [if_neg (show ¬ eqI q.Op 3 = true from fun h => h3 (by rw [c1]; exact eqT h))] at hm
  by_cases h5 : p.Op = 5
  ·rw [if_pos (show eqI p.Op 5 = true from decide_eq_true h5)] at hm2
   rw [if_pos (show eqI q.Op 5 = true from decide_eq_true (by rw [← c1]; exact h5))] at hm
   rw [← c4] at hm
   obtain ⟨b, hb1, hm⟩ := bindS hm
   rw [hb1, zAf] at hm2
   cases b with
   | true => rw [if_pos rfl] at hm; cases hm; cases hr
   | false =>
    rw [if_neg (by decide)] at hm hm2
    have hvl : v.L.length = p.L.length := by
     split at hb1
     ·cases hb1
     ·split at hb1
      ·cases hb1
      ·rename_i hlen
       have : eqI (v.L.length : Int) (p.L.length : Int) = true := by simpa using hlen
       have := eqT this
       omega
    obtain ⟨o, ho, hm⟩ := bindS hm
    cases o with
    | inl r0 =>
     have hm : some r0 = some r := hm
     cases hm
     rw [ml_inl q v g g l1 0 ho] at hr; cases hr
    | inr l' =>
     obtain ⟨l'', hl''⟩ := cm_loop p q v g hvl c4.symm (fun i x z y hx hz hy l1 l2 r hbb hmm hrr => by
      have hxm := List.mem_of_getElem? hx
      have hym := List.mem_of_getElem? hy
      exact ih x hxm z g y l1 l2 r (hc i x z hx hz) (by have := zFX hxm; have := zEV hym; omega) (hnk x hxm) (hv.part hym) (by have := zE1 hxm; omega) (by have := zFs hym; omega) hbb hmm hrr)
      p.L.length 0 g l1 l2 l' (by omega) (by omega) (by rw [List.drop_zero]; have := zGI p; omega) ho
     rw [hl'', zAf] at hm2
     cases hm2; rfl
  rw [if_neg (show ¬ eqI p.Op 5 = true from fun h => h5 (eqT h))] at hm2
  rw [if_neg (show ¬ eqI q.Op 5 = true from fun h => h5 (by rw [c1]; exact eqT h))] at hm
  obtain ⟨b, hb1, hm⟩ := bindS hm
  rw [hb1, zAf] at hm2
  cases b with
  | true => rw [if_pos rfl] at hm; cases hm; cases hr
  | false =>
   rw [if_neg (by decide)] at hm hm2
   obtain ⟨x, hx, hm⟩ := bindS hm
   obtain ⟨y, hy, hm⟩ := bindS hm
   rw [hx, zAf, hy, zAf, c3, c4] at hm2
   split at hm
   ·cases hm; cases hr
   ·rename_i e1
    rw [if_neg e1] at hm2
    split at hm
    ·rename_i e2
     rw [if_pos e2] at hm2
     cases hm; cases hm2
     have hr : (eqI y.Op 3 && eqI (y.L.length : Int) 0) = true := hr
     show (eqI y.Op 3 && eqI (y.L.length : Int) 0, !(eqI y.Op 3 && eqI (y.L.length : Int) 0)) = (true, false)
     rw [hr]; rfl
    ·rename_i e2
     rw [if_neg e2] at hm2
     obtain ⟨z, hz, hm⟩ := bindS hm
     obtain ⟨r3, hr3, hm⟩ := bindS hm
     obtain ⟨u, hu, hm2⟩ := bindS hm2
     have hxm := List.mem_of_getElem? hx
     have hym := List.mem_of_getElem? hy
     have hum := List.mem_of_getElem? hu
     cases hm
     obtain ⟨o, ho, _⟩ := ih u hum z g y l1 l2 r3 (hc 0 u z hu hz) (by have := zFX hum; have := zEV hxm; have := zEV hym; omega) (hnk u hum) ((hv.part hxm).part hym) (by have := zE1 hum; omega) (by have := zFs hxm; have := zFs hym; omega) (by have := zE1 hum; omega) hr3 hr
     rw [ho, zAf] at hm2
     cases hm2; rfl
theorem vld_nok {p : zHm} (h : vld p = true) : nok p = true := by unfold vld at h; rw [Bool.and_eq_true] at h; exact h.1
theorem Match_M (p : zHm) (v : zHl) {fuel : Nat} (hf : wt p + vwt v ≤ fuel) (hs : nds p ≤ 200) (hs2 : vnd v ≤ 400) :
  ∃ r, zBH fuel p v = some r ∧ (r.2.1 = true → zBv fuel v = some true ∧ Vok v ∧ ∃ r0, zAQ fuel p v [] = some r0 ∧ r0.2.1 = true) := by
 obtain ⟨b, hb, hb2⟩ := VValid_M v (fuel := fuel) (by omega) hs2
 rw [zBH, Valid_M p (by omega) hs, zAf, hb]
 cases hp : vld p with
 | false => exact ⟨([], false, 1), rfl, fun h => (by cases h)⟩
 | true =>
  cases b with
  | false => exact ⟨([], false, 1), rfl, fun h => (by cases h)⟩
  | true =>
   obtain ⟨r, hr, hr2⟩ := match_M p fuel v [] hf (vld_nok hp) (hb2 rfl) hs hs2 (by simp only [List.length_nil]; omega)
   simp only [Bool.not_true, Bool.false_eq_true, if_false, zAf]
   rw [hr, zAf]
   obtain ⟨o, ok, fl⟩ := r
   cases fl with
   | true => exact ⟨([], false, 12), rfl, fun h => (by cases h)⟩
   | false =>
    cases ok with
    | false => exact ⟨([], false, 0), rfl, fun h => (by cases h)⟩
    | true => exact ⟨(o, true, 0), rfl, fun _ => ⟨trivial, hb2 rfl, _, rfl, rfl⟩⟩
theorem Match_ok (p : zHm) (v : zHl) {fuel : Nat} (hf : wt p ≤ fuel) (hs : nds p ≤ 200) (hp : vld p = true) (hv : zBv fuel v = some true) {o : List zHl} (h : zAQ fuel p v [] = some (o, true, false)) :
  zBH fuel p v = some (o, true, 0) := by
 rw [zBH, Valid_M p hf hs, zAf, hv, hp, h]
 rfl
theorem zFL (p q s : zHm) (v : zHl) : ∃ fuel, zBY fuel p q s v = some true := by
 refine ⟨wt p + wt q + wt s + vwt v, ?_⟩
 generalize hfu : wt p + wt q + wt s + vwt v = fuel
 obtain ⟨bp, hbp, hp⟩ := Big_M p (fuel := fuel) (by omega)
 obtain ⟨bq, hbq, hq⟩ := Big_M q (fuel := fuel) (by omega)
 obtain ⟨bs, hbs, hs⟩ := Big_M s (fuel := fuel) (by omega)
 obtain ⟨bv, hbv, hv⟩ := Huge_M v (fuel := fuel) (by omega)
 rw [zBY, zEH, zAf, hbp, hbq, hbs, hbv]
 cases bp with
 | true => rfl
 | false =>
 cases bq with
 | true => rfl
 | false =>
 cases bs with
 | true => rfl
 | false =>
 cases bv with
 | true => rfl
 | false =>
 have hp := hp rfl
 have hq := hq rfl
 have hs := hs rfl
 have hv := hv rfl
 obtain ⟨c, e, h1, h2, h3⟩ := zHk p q (fuel := fuel) (by omega) (by omega) hp hq
 rw [h1, RValid_M p (by omega) hp, RValid_M q (by omega) hq]
 simp only [Bool.not_true, Bool.false_eq_true, if_false, zAf]
 cases hvp : vld p with
 | false =>
  obtain ⟨rfl, rfl⟩ := h3 (fun h => by rw [hvp] at h; cases h.1)
  rfl
 | true =>
 cases hvq : vld q with
 | false =>
  obtain ⟨rfl, rfl⟩ := h3 (fun h => by rw [hvq] at h; cases h.2)
  rfl
 | true =>
 obtain ⟨rfl, h4⟩ := h2 ⟨hvp, hvq⟩
 obtain ⟨c', h5, h6⟩ := RCovers_M p fuel q (by omega)
 obtain rfl : c = c' := by rw [Bool.eq_iff_iff, h4, h6]
 obtain ⟨c2, e2, h7, h8, _⟩ := zHk p p (fuel := fuel) (by omega) (by omega) hp hp
 obtain ⟨rfl, h8'⟩ := h8 ⟨hvp, hvp⟩
 obtain rfl : c2 = true := h8'.2 (Cov.refl p)
 rw [h5, h7]
 have r1 : eqB c c = true := by cases c <;> rfl
 simp only [Bool.not_true, Bool.false_eq_true, if_false, if_true, zAf, r1, show eqI (0 : Int) 0 = true from rfl, Bool.not_false, Bool.or_false, Bool.false_or]
 cases c with
 | false => rfl
 | true =>
 have hcov := h4.1 rfl
 simp only [Bool.not_true, Bool.false_eq_true, if_false]
 obtain ⟨c3, e3, h9, h10, h11⟩ := zHk q s (fuel := fuel) (by omega) (by omega) hq hs
 obtain ⟨c4, e4, h12, h13, _⟩ := zHk p s (fuel := fuel) (by omega) (by omega) hp hs
 have fin : ((zAe fuel q s).bind fun v87 => if ((!(eqI v87.2 0)) || (!v87.1)) = true then some ((eqI v87.2 0) || (eqI v87.2 1)) else (zAe fuel p s).bind fun v103 => some ((eqI v103.2 0) && v103.1)) = some true := by
  rw [h9, zAf]
  cases hvs : vld s with
  | false =>
   obtain ⟨rfl, rfl⟩ := h11 (fun h => by rw [hvs] at h; cases h.2)
   rfl
  | true =>
   obtain ⟨rfl, h10'⟩ := h10 ⟨hvq, hvs⟩
   obtain ⟨rfl, h13'⟩ := h13 ⟨hvp, hvs⟩
   cases c3 with
   | false => rfl
   | true =>
    obtain rfl : c4 = true := h13'.2 (Cov.trans p q s hcov (h10'.1 rfl))
    rw [h12]; rfl
 obtain ⟨r, h14, h15⟩ := Match_M q v (fuel := fuel) (by omega) hq hv
 rw [h14, zAf]
 cases hr : r.2.1 with
 | false =>
  rw [Bool.and_false, if_neg (by decide)]
  exact fin
 | true =>
  obtain ⟨g1, g2, r0, g3, g4⟩ := h15 hr
  obtain ⟨o, g5, _⟩ := cov_match p q fuel v [] [] r0 hcov (by omega) (vld_nok hvp) g2 hp hv (by simp only [List.length_nil]; omega) g3 g4
  rw [Match_ok p v (by omega) hp hvp g1 g5]
  cases hz : eqI r.2.2 0 with
  | false => rw [Bool.false_and, if_neg (by decide)]; exact fin
  | true =>
   rw [Bool.and_self, if_pos rfl, zAf]
   exact fin
end Go.Proofs.YtlekkicnlddhlaaGreatDoor
