/- The row PatternCovers holds: what covers a pattern matches what this matches, and covering is as specified. Part 12 of 18. No condition. -/
import Derived.Test.YtlekkicnlddhlaaGreatDoorPCk
import Derived.Lib.Builder
import Derived.Lib.UnsafeStr
import Derived.Laws.Externs
set_option linter.unusedVariables false
set_option linter.unnecessarySimpa false
set_option linter.unusedSimpArgs false
set_option maxRecDepth 100000
set_option maxHeartbeats 1000000
namespace Go.Proofs.YtlekkicnlddhlaaGreatDoor
open Go Go.Abs Go.Proofs
theorem zHd (b : Nat) (w : World) (h0 : w.cell? ⟨b, 0, none⟩ = some (.pointer (some ⟨b, 0, none⟩))) :
  Calls Tryz.prog 139 #[.pointer (some ⟨b, 0, none⟩)] w fun e w' => e = .returned (.tuple #[]) ∧ w' = w := by
 go_enter Tryz.func139, Tryz.ntmps139
 go_wp2
 rw [Lib.run_neq_ptr_same w _ Tryz.underlying111 (show Tryz.prog.info? 113 = some Tryz.t113 from rfl)]
 go_wp2
 go_end0
 exact ⟨rfl, rfl⟩
theorem zGm (b : Nat) (w : World) (h0 : w.cell? ⟨b, 0, none⟩ = some (.pointer none)) (hsh : w.shape? b = some (113, 2)) (hfz : w.frozen? ⟨b, 0, none⟩ = false) :
  Calls Tryz.prog 139 #[.pointer (some ⟨b, 0, none⟩)] w fun e w' => e = .returned (.tuple #[]) ∧ w' = w.setCell ⟨b, 0, none⟩ (.pointer (some ⟨b, 0, none⟩)) := by
 have hj : Tryz.prog.info? 113 = some Tryz.t113 := rfl
 go_enter Tryz.func139, Tryz.ntmps139
 go_wp2
 rw [Lib.run_to_unsafe w ⟨b, 0, none⟩ Tryz.underlying111 Tryz.underlying180 hj (by decide) hsh (Nat.zero_lt_succ 1)]
 simp only [Result.andThen]
 rw [Oper.upon_value]
 go_wp2
 rw [run_callFunc_extern Tryz.func165 (by kernel_rfl) (by kernel_rfl) (by kernel_rfl) (e := Extern.AbiNoEscape.same) (by kernel_rfl)]
 rw [Lib.run_noEscape]
 simp only [Result.andThen]
 rw [Oper.upon_value]
 go_wp2
 rw [Lib.run_from_unsafe w ⟨b, 0, none⟩ Tryz.underlying180 Tryz.underlying111 hj hsh (by kernel_rfl)]
 simp only [Result.andThen]
 rw [Oper.upon_value]
 go_wp2
 go_end0
 exact ⟨rfl, rfl⟩
theorem setSelf {g : Gh} {bs : List (List AV)} {w : World} (h : Sto g bs w) {i k ty : Nat} {rest : List AV} (hb0 : bs[i]? = some (.baddr ty i :: rest)) (hk0 : g.σ[i]? = some k) :
  Sto g bs (w.setCell ⟨k, 0, none⟩ (.pointer (some ⟨k, 0, none⟩))) := by
 have hkm : k ∈ g.σ := List.mem_of_getElem? hk0
 have hblock : ∀ j, j ≠ k → (w.setCell ⟨k, 0, none⟩ (.pointer (some ⟨k, 0, none⟩))).heap[j]? = w.heap[j]? := fun j hj => RowKit.Below.heap_setCell _ _ _ _ hj
 refine { h with
  imm := fun y u hy => ?_
  blk := fun i' blk k' hb hk' => ?_
  ownσ := fun p k' hk' => by simpa using h.ownσ p k' hk' }
 ·rw [World.cell?_setCell_other _ _ _ _ (fun e => h.immσ y u hy (by rw [← e]; exact hkm))]; exact h.imm y u hy
 ·obtain ⟨c, ty', h1, h2, h3⟩ := h.blk i' blk k' hb hk'
  by_cases hi : i' = i
  ·subst hi
   rw [hb0] at hb; cases hb
   rw [hk0] at hk'; cases hk'
   refine ⟨c.setIfInBounds 0 (.pointer (some ⟨k, 0, none⟩)), ty', ?_, by simpa using h2, fun j y hy => ?_⟩
   ·simp only [World.setCell, Array.getElem?_modify, if_true]
    rw [h1]; rfl
   ·obtain ⟨h5, h6, h7⟩ := h3 j y hy
    rw [zCf]
    cases j with
    | zero =>
     simp only [List.length_cons] at h2
     rw [if_pos ⟨rfl, by omega⟩]
     simp at hy; subst hy
     exact ⟨h5.imp (fun e => by simpa using e), .baddr _ _ _ hk0, OwnsBy.of_not rfl⟩
    | succ j =>
     rw [if_neg (fun e => by have := e.1; omega)]
     exact ⟨h5.imp (fun e => by simpa using e), h6, h7.world (fun _ _ _ _ hs => hs.setCell) zBd (fun _ _ h => h) zCd⟩
  ·refine ⟨c, ty', ?_, h2, fun j x hx => ?_⟩
   ·rw [hblock k' (fun e => ?_)]
    ·exact h1
    ·subst e
     obtain ⟨l1, e1⟩ := List.getElem?_eq_some_iff.1 hk'; obtain ⟨l2, e2⟩ := List.getElem?_eq_some_iff.1 hk0
     exact hi (zFm h.nodup l1 l2 (by rw [e1, e2]))
   ·obtain ⟨h5, h6, h7⟩ := h3 j x hx
    exact ⟨h5, h6, h7.world (fun _ _ _ _ hs => hs.setCell) zBd (fun _ _ h => h) zCd⟩
theorem copyCheck_raw (x : AV) : Raw Tryz.prog 139 [.mptr 0 0] [[.baddr 113 0, x]] (.tup []) [[.baddr 113 0, x]] := by
 have hb : ([[.baddr 113 0, x]] : List (List AV))[0]? = some [.baddr 113 0, x] := rfl
 generalize ([[.baddr 113 0, x]] : List (List AV)) = bs at hb
 refine ⟨⟨_, Tryz.func139, rfl, rfl⟩, fun g w vals hs h0 htg ha => ?_⟩
 obtain ⟨hsz, hv⟩ := ha
 have hv0 := hv 0 _ rfl
 obtain ⟨v0, rfl⟩ := Array.size_eq_one_iff.1 hsz
 cases hv0' : (#[v0] : Array Value).getD 0 undef with
 | pointer p =>
  rw [hv0'] at hv0
  cases hv0 with
  | mptr _ _ k hk =>
   have : v0 = .pointer (some ⟨k, 0, none⟩) := hv0'
   subst this
   obtain ⟨c, ty, h1, h2, h3⟩ := hs.blk 0 _ k hb hk
   obtain ⟨h5, h6, h7⟩ := h3 0 _ rfl
   have hty : ty = 113 ∧ 2 = c.size := by
    rcases h5 with h5 | ⟨he, b, h5⟩
    ·cases h5
    ·cases h5; exact ⟨rfl, he⟩
   obtain ⟨hty, hsz2⟩ := hty
   subst hty
   have hc0 := zBf h1 0 (Nat.lt_of_lt_of_le (Nat.zero_lt_succ _) h2)
   have hkm : k ∈ g.σ := List.mem_of_getElem? hk
   generalize c.getD 0 undef = u at h6 hc0
   cases h6 with
   | baddr0 _ _ _ =>
    refine (zGm k w hc0 (by unfold World.shape?; rw [h1]; show some (113, c.size) = _; rw [← hsz2]) (zEa h1 0)).mono ?_
    rintro e w' ⟨rfl, rfl⟩
    refine ⟨g, _, rfl, .tup [] #[] rfl (by simp), setSelf hs hb hk, ?_, h0⟩
    have h8 := Ext.refl' w g (fun k hk => hs.σ_lt hk) h0 htg
    exact { h8 with
     keep := fun j hj hT => by
      rw [RowKit.Below.heap_setCell _ _ _ _ (fun e => ?_)]
      subst e
      exact hT (.inl hkm)
     size := by simp
     os := h8.os
     tape := h8.tape
     output := h8.output }
   | baddr _ _ k' hk' =>
    rw [hk] at hk'; cases hk'
    refine (zHd k w hc0).mono ?_
    rintro e w' ⟨rfl, rfl⟩
    exact ⟨g, _, rfl, .tup [] #[] rfl (by simp), hs, Ext.refl' w' g (fun k hk => hs.σ_lt hk) h0 htg, h0⟩
 | _ => rw [hv0'] at hv0; cases hv0
section
variable (b : Nat) (w : World)
theorem us_none (p : Option Addr) (w : World) : (Builtin.unsafeString_ #[147, 3] 9 #[.pointer p, .int .i64 0]).run Tryz.prog w = .ok (.string ⟨#[]⟩) w := Lib.run_unsafeString_none w _ _ _ p
theorem string_nil (h0 : w.cell? ⟨b, 1, none⟩ = some (.slice none 0 0)) :
  Calls Tryz.prog 69 #[.pointer (some ⟨b, 0, none⟩)] w fun e w' => e = .returned (.string ⟨#[]⟩) ∧ w' = w.drew := by
 have c1 : w.drew.cell? ⟨b, 1, none⟩ = some (.slice none 0 0) := h0
 have hUS := us_none
 have hSD : (Builtin.unsafeSliceData_ #[39] 147 #[.slice none 0 0]).run Tryz.prog w.drew = .ok (.pointer none) w.drew := rfl
 go_enter Tryz.func69, Tryz.ntmps69
 go_wp2
 go_region
 all_goals (go_wp2; go_ret; exact ⟨rfl, rfl⟩)
theorem string_room (a : Addr) (k : Nat) (h0 : w.cell? ⟨b, 1, none⟩ = some (.slice (some a) 0 (k + 1))) :
  Calls Tryz.prog 69 #[.pointer (some ⟨b, 0, none⟩)] w fun e w' => e = .returned (.string ⟨#[]⟩) ∧ w' = w.drew := by
 have c1 : w.drew.cell? ⟨b, 1, none⟩ = some (.slice (some a) 0 (k + 1)) := h0
 have hUS := us_none
 have hSD : (Builtin.unsafeSliceData_ #[39] 147 #[.slice (some a) 0 (k + 1)]).run Tryz.prog w.drew = .ok (.pointer (some a)) w.drew := rfl
 go_enter Tryz.func69, Tryz.ntmps69
 go_wp2
 go_region
 all_goals (go_wp2; go_ret; exact ⟨rfl, rfl⟩)
theorem string_noroom (a : Addr) (sh : TypeId × Nat) (hsh : w.shape? a.block = some sh) (h0 : w.cell? ⟨b, 1, none⟩ = some (.slice (some a) 0 0)) (hlt : b < w.heap.size) :
  Calls Tryz.prog 69 #[.pointer (some ⟨b, 0, none⟩)] w fun e w' => e = .returned (.string ⟨#[]⟩) ∧ w' = (w.alloc (.view a 5)).drew := by
 have c1 : w.drew.cell? ⟨b, 1, none⟩ = some (.slice (some a) 0 0) := h0
 have hUS := us_none
 have hSD : (Builtin.unsafeSliceData_ #[39] 147 #[.slice (some a) 0 0]).run Tryz.prog w.drew = .ok (.pointer (some ⟨w.drew.heap.size, 0, none⟩)) (w.drew.alloc (.view a 5)) :=
  Lib.run_unsafeSliceData_zero w.drew _ _ 5 Tryz.underlying147 a 0 sh hsh
 have c3 : (w.alloc (.view a 5)).drew.cell? ⟨b, 1, none⟩ = some (.slice (some a) 0 0) := by
  show (w.alloc (.view a 5)).cell? ⟨b, 1, none⟩ = _
  rw [World.cell?_alloc_lt _ _ _ hlt]; exact h0
 have c2 : (w.drew.alloc (.view a 5)).cell? ⟨b, 1, none⟩ = some (.slice (some a) 0 0) := c3
 go_enter Tryz.func69, Tryz.ntmps69
 go_wp2
 go_region
 all_goals (go_wp2; go_ret; exact ⟨rfl, rfl⟩)
theorem string_some (q cells : Nat) (l : List UInt8) (cap : Nat) (h1 : l ≠ []) (hlc : l.length ≤ cap) (hn : l.length ≤ cells) (h63 : l.length ≤ 9223372036854775807) (hsh : w.shape? q = some (5, cells))
  (h0 : w.cell? ⟨b, 1, none⟩ = some (.slice (some ⟨q, 0, none⟩) l.length cap)) (hcell : ∀ j x, l[j]? = some x → w.cell? ((⟨q, 0, none⟩ : Addr).add j) = some (.int .u8 x.toNat)) :
  Calls Tryz.prog 69 #[.pointer (some ⟨b, 0, none⟩)] w fun e w' => e = .returned (.string ⟨l.toArray⟩) ∧ w' = w.drew.freeze ⟨q, 0, none⟩ l.length := by
 have c1 : w.drew.cell? ⟨b, 1, none⟩ = some (.slice (some ⟨q, 0, none⟩) l.length cap) := h0
 have hpos : l.length ≠ 0 := by simpa using h1
 have hSD : (Builtin.unsafeSliceData_ #[39] 147 #[.slice (some ⟨q, 0, none⟩) l.length cap]).run Tryz.prog w.drew = .ok (.pointer (some ⟨q, 0, none⟩)) w.drew :=
  Lib.run_unsafeSliceData_row w.drew _ _ _ _ _ (by omega)
 have hUS : (Builtin.unsafeString_ #[147, 3] 9 #[.pointer (some ⟨q, 0, none⟩), .int .i64 l.length]).run Tryz.prog w.drew = .ok (.string ⟨l.toArray⟩) (w.drew.freeze ⟨q, 0, none⟩ l.length) :=
  Lib.run_unsafeString_row w.drew 147 3 9 5 Tryz.underlying147 (by kernel_rfl) q cells hsh l h1 hn h63 hcell
 clear h1 hpos hlc hn h63 hcell
 generalize hw : w.drew.freeze ⟨q, 0, none⟩ l.length = wf at hUS ⊢
 go_enter Tryz.func69, Tryz.ntmps69
 go_wp2
 go_region
 all_goals (go_wp2; go_ret; exact ⟨rfl, rfl⟩)
end
theorem Sto.move {g : Gh} {bs : List (List AV)} {w w' : World} (h : Sto g bs w) (hc : ∀ a v, w.cell? a = some v → w'.cell? a = some v) (hb : ∀ k, k ∈ g.σ → w'.heap[k]? = w.heap[k]?) (hsz : w.heap.size ≤ w'.heap.size)
  (hown : ∀ (i j k : Nat) c ty blk x, bs[i]? = some blk → g.σ[i]? = some k → w.heap[k]? = some (.cells c ty (0, 0)) → blk[j]? = some x → OwnsBy g.imm w (g.own (.cell i j)) x (c.getD j undef) → OwnsBy g.imm w' (g.own (.cell i j)) x (c.getD j undef)) :
  Sto g bs w' := { h with
 imm := fun x v hx => hc _ _ (h.imm x v hx)
 blk := fun i blk k h1 h2 => by
  obtain ⟨c, ty, q1, q2, q3⟩ := h.blk i blk k h1 h2
  refine ⟨c, ty, by rw [hb k (List.mem_of_getElem? h2)]; exact q1, q2, fun j x hx => ?_⟩
  obtain ⟨r1, r2, r3⟩ := q3 j x hx
  exact ⟨r1, r2, hown i j k c ty blk x h1 h2 q1 hx r3⟩
 ownσ := fun p k hp => ⟨(h.ownσ p k hp).1, Nat.lt_of_lt_of_le (h.ownσ p k hp).2 hsz⟩ }
theorem zHB {g : Gh} {bs : List (List AV)} {w : World} (h : Sto g bs w) : Sto g bs w.drew :=
 Sto.move h (fun _ _ h => h) (fun _ _ => rfl) (Nat.le_refl _) fun _ _ _ _ _ _ _ _ _ _ _ h => h
theorem zGs {w : World} {k : Nat} {sh : TypeId × Nat} (h : zFA w k = some sh) : w.shape? k = some sh := by
 unfold zFA at h; unfold World.shape?
 split at h
 ·rename_i c ty fr e; rw [e]
  split at h
  ·exact h
  ·cases h
 ·cases h
theorem heap_freeze (w : World) (q n k : Nat) (h : k ≠ q) : (w.freeze ⟨q, 0, none⟩ n).heap[k]? = w.heap[k]? := by
 unfold World.freeze
 split
 ·rfl
 ·simp only [Array.getElem?_modify]; rw [if_neg (fun e => h e.symm)]
theorem freeze_at {w : World} {q n : Nat} {c : Array Value} {ty : TypeId} {fr : Nat × Nat} (h : w.heap[q]? = some (.cells c ty fr)) (hn : n ≠ 0) :
  (w.freeze ⟨q, 0, none⟩ n).heap[q]? = some (.cells c ty (if fr.1 == fr.2 then (0, n) else (0, max fr.2 n))) := by
 unfold World.freeze
 rw [if_neg hn]
 simp only [Array.getElem?_modify, if_true, h, Option.map_some]
 obtain ⟨lo, hi⟩ := fr
 simp
theorem zDM (b : List UInt8) (r : List UInt8) (h : zDm b = some r) :
  Raw Tryz.prog 69 [.mptr 0 0] [[.baddr 113 0, .osl ⟨1, 5⟩ (b.map cU)]] (.str r) [[.baddr 113 0, .osl ⟨1, 5⟩ (b.map cU)]] := by
 obtain rfl := Option.some.inj h
 refine ⟨⟨_, Tryz.func69, rfl, rfl⟩, fun g w vals hs h0 htg ha => ?_⟩
 obtain ⟨hsz, hv⟩ := ha
 have hv0 := hv 0 _ rfl
 obtain ⟨v0, rfl⟩ := Array.size_eq_one_iff.1 hsz
 cases hv0' : (#[v0] : Array Value).getD 0 undef with
 | pointer p =>
  rw [hv0'] at hv0
  cases hv0 with
  | mptr _ _ k hk =>
   have : v0 = .pointer (some ⟨k, 0, none⟩) := hv0'
   subst this
   obtain ⟨c, ty, h1, h2, h3⟩ := hs.blk 0 _ k rfl hk
   obtain ⟨h5, h6, h7⟩ := h3 1 _ rfl
   have hc1 := zBf h1 1 (Nat.lt_of_lt_of_le (Nat.lt_succ_self _) h2)
   have hkl := hs.σ_lt (List.mem_of_getElem? hk)
   have hrefl := Ext.refl' w g (fun k hk => hs.σ_lt hk) h0 htg
   have hext : ∀ w' : World, (∀ k, k < w.heap.size → ¬ Fx.T ⟨w, g⟩ k → w'.heap[k]? = w.heap[k]?) → w.heap.size ≤ w'.heap.size → w'.os = w.os → w'.tape = w.tape → w'.output = w.output → Ext ⟨w, g⟩ g w' := fun w' p1 p2 p3 p4 p5 =>
    { hrefl with keep := p1, size := p2, os := p3, tape := p4, output := p5 }
   have hstr : b.length ≤ 281474976710656 → Rep g.imm g.σ (.str b) (.string ⟨b.toArray⟩) := fun hl => .str _ _ (by simp) (by omega)
   generalize hcv : c.getD 1 undef = u at h6 h7 hc1
   cases h6' : b with
   | nil =>
    subst h6'
    have hrs : Rep g.imm g.σ (.str []) (.string ⟨#[]⟩) := hstr (by simp)
    cases h6 with
    | osl0 _ =>
     refine (string_nil k w hc1).mono ?_
     rintro e w' ⟨rfl, rfl⟩
     exact ⟨g, _, rfl, hrs, zHB hs, hext _ (fun _ _ _ => rfl) (Nat.le_refl _) rfl rfl rfl, h0⟩
    | osl _ _ a n cap vs hn hcap hbd he hi hr =>
     have hn0 : n = 0 := by simpa using hn
     subst hn0
     cases cap with
     | succ cap =>
      refine (string_room k w a cap hc1).mono ?_
      rintro e w' ⟨rfl, rfl⟩
      exact ⟨g, _, rfl, hrs, zHB hs, hext _ (fun _ _ _ => rfl) (Nat.le_refl _) rfl rfl rfl, h0⟩
     | zero =>
      rcases h7 _ _ _ rfl with h8 | ⟨a', h8, h9, ⟨ha1, ha2, m, h10, h11⟩, h12⟩
      ·cases h8
      ·cases h8
       refine (string_noroom k w a _ (zGs h10) hc1 hkl).mono ?_
       rintro e w' ⟨rfl, rfl⟩
       refine ⟨g, _, rfl, hrs, zHB (Sto.move hs (fun x v hx => ?_) (fun k' hk' => heap_alloc_old w _ (hs.σ_lt hk')) (by simp) fun i j k' c' ty' blk x e1 e2 e3 e4 e5 => ?_), hext _ (fun k' hk' _ => heap_alloc_old w _ hk') (by simp) rfl rfl rfl, h0⟩
       ·rw [World.cell?_alloc_lt _ _ _ (World.block_lt_of_cell? _ _ hx)]; exact hx
       ·exact e5.world (fun _ _ _ _ hs => hs.alloc (fun _ _ => rfl)) zCa (fun _ _ h => h) zDi
   | cons x0 b0 =>
    have hne : b ≠ [] := by rw [h6']; simp
    rw [← h6']
    clear h6'
    generalize hl0 : b.map cU = l0 at h6
    cases h6 with
    | osl0 _ => exact absurd (List.map_eq_nil_iff.1 hl0) hne
    | osl _ _ a n cap vs hn hcap hbd he hi hr =>
     subst hl0
     have hn' : n = b.length := by simpa using hn
     subst hn'
     rcases h7 _ _ _ rfl with h8 | ⟨a', h8, h9, ⟨ha1, ha2, m, h10, h11⟩, h12⟩
     ·cases h8
     ·cases h8
      obtain ⟨q, off, spot⟩ := a
      simp only at ha1 ha2 h9 h10
      subst ha1; subst ha2
      have hpos : b.length ≠ 0 := by simpa using hne
      have hcell : ∀ j x, b[j]? = some x → w.cell? ((⟨q, 0, none⟩ : Addr).add j) = some (.int .u8 x.toNat) := fun j x hx => by
       have e1 : (b.map cU)[j]? = some [.int .u8 x.toNat] := by rw [List.getElem?_map, hx]; rfl
       have e2 := hi j _ e1 0 _ rfl
       have e3 := hr j _ e1 0 _ rfl
       have e4 := hs.imm _ _ e2
       simp only [Nat.mul_one, Nat.add_zero] at e4
       rw [e4]
       generalize vs j 0 = y at e3
       cases e3; rfl
      have hblk : ∃ c' fr, w.heap[q]? = some (.cells c' 5 fr) ∧ (fr.1 = fr.2 ∨ fr.1 = 0) ∧ c'.size = m := by
       unfold zFA at h10
       split at h10
       ·rename_i c' ty' fr e
        split at h10
        ·rename_i hfr; cases h10; exact ⟨c', fr, e, hfr, rfl⟩
        ·cases h10
       ·cases h10
      obtain ⟨c', fr, hq, hfr, hm⟩ := hblk
      have hcm : cap ≤ m := by simpa using h11
      refine (string_some k w q m b cap hne hcap (by omega) (by omega) (zGs h10) hc1 hcell).mono ?_
      rintro e w' ⟨rfl, rfl⟩
      have hqσ := (hs.ownσ _ q h9).1
      have hfz : ∀ k', k' ≠ q → (w.freeze ⟨q, 0, none⟩ b.length).heap[k']? = w.heap[k']? := fun k' hk' => heap_freeze w q _ k' hk'
      have hfq := freeze_at (n := b.length) hq hpos
      have hsize : (w.freeze ⟨q, 0, none⟩ b.length).heap.size = w.heap.size := by unfold World.freeze; split <;> simp
      have hcells : ∀ x, (w.freeze ⟨q, 0, none⟩ b.length).cell? x = w.cell? x := fun x => by
       unfold World.cell?
       by_cases hx : x.block = q
       ·rw [hx, hfq, hq]
       ·rw [hfz _ hx]
      have hdrw : w.drew.freeze ⟨q, 0, none⟩ b.length = (w.freeze ⟨q, 0, none⟩ b.length).drew := by
       unfold World.freeze; split <;> rfl
      rw [hdrw]
      refine ⟨g, _, rfl, hstr hbd, zHB (Sto.move hs (fun x v hx => by rw [hcells]; exact hx) (fun k' hk' => hfz k' (fun e => hqσ (by rw [← e]; exact hk'))) (by rw [hsize]; exact Nat.le_refl _) fun i j k' c2 ty' blk x e1 e2 e3 e4 e5 => ?_),
       hext _ (fun k' hk' hT => hfz k' (fun e => hT (.inr ⟨0, 1, by rw [e]; exact h9⟩))) (by show _ ≤ (w.freeze ⟨q, 0, none⟩ b.length).heap.size; rw [hsize]; exact Nat.le_refl _) (by show (w.freeze ⟨q, 0, none⟩ b.length).os = _; unfold World.freeze; split <;> rfl)
       (by show (w.freeze ⟨q, 0, none⟩ b.length).tape = _; unfold World.freeze; split <;> rfl) (by show (w.freeze ⟨q, 0, none⟩ b.length).output = _; unfold World.freeze; split <;> rfl), h0⟩
      cases i with
      | succ i => simp at e1
      | zero =>
       simp only [List.getElem?_cons_zero, Option.some.injEq] at e1
       subst e1
       rw [hk] at e2; cases e2
       rw [h1] at e3; cases e3
       cases j with
       | zero => simp only [List.getElem?_cons_zero, Option.some.injEq] at e4; subst e4; exact OwnsBy.of_not rfl
       | succ j =>
        cases j with
        | succ j => simp at e4
        | zero =>
         simp only [List.getElem?_cons_succ, List.getElem?_cons_zero, Option.some.injEq] at e4
         subst e4
         rw [hcv]
         intro base n cap' hv'
         cases hv'
         refine .inr ⟨_, rfl, h9, ⟨rfl, rfl, m, ?_, h11⟩, fun j hj1 hj2 => ?_⟩
         ·unfold zFA
          rw [hfq, ← hm]
          simp only
          split <;> simp
         ·obtain ⟨p1, p2, p3⟩ := h12 j hj1 hj2
          refine ⟨p1, by rw [hcells]; exact p2, ?_⟩
          have hb0 : ((⟨q, 0, none⟩ : Addr).add j).block = q := zCu _ _
          have ho0 : ((⟨q, 0, none⟩ : Addr).add j).off = j := by rw [add_off]; exact Nat.zero_add j
          unfold World.frozen? at p3 ⊢
          rw [hb0, hq] at p3
          rw [hb0, hfq]
          rw [ho0] at p3 ⊢
          simp only [Nat.mul_one] at hj1
          obtain ⟨lo, hi'⟩ := fr
          simp only [Bool.and_eq_false_iff, decide_eq_false_iff_not] at p3 hfr
          by_cases hlo : lo = hi'
          ·rw [if_pos (by simp [hlo])]
           simp; omega
          ·rw [if_neg (by simp [hlo])]
           simp; omega
 | _ => rw [hv0'] at hv0; cases hv0
end Go.Proofs.YtlekkicnlddhlaaGreatDoor
namespace Go.Proofs.YtlekkicnlddhlaaGreatDoor
open Go Go.Abs Go.RowKit
theorem ixb_any (s : ByteArray) (c : Int) (w : World) : Calls Tryz.prog 154 #[.string s, .int .u8 c] w fun e w' => e = .returned (.int .i64 (Lib.indexByte s.data.toList c.toNat.toUInt8)) ∧ w' = w := by
 go_enter Tryz.func154, Tryz.ntmps154
 go_wp2
 rw [run_callFunc_extern Tryz.func179 (by kernel_rfl) (by kernel_rfl) (by kernel_rfl) (e := Extern.BytealgIndexByte.indexByte) (by kernel_rfl)]
 rw [Lib.run_indexByteString]
 simp only [Result.andThen]
 rw [Oper.upon_value]
 go_wp2
 go_ret
 exact ⟨rfl, rfl⟩
theorem zGL (c : UInt8) : ∀ l : List UInt8, Lib.indexByte l c ≤ l.length
 | [] => by simp [Lib.indexByte]
 | b :: l => by
  have := zGL c l
  have e : ((b :: l).length : Int) = l.length + 1 := by simp
  rw [e]
  unfold Lib.indexByte
  split
  ·omega
  ·split
   ·omega
   ·omega
theorem zDU (s0 : List UInt8) (c : UInt8) (r : Int) (h : zCY s0 c = some r) : Pure Tryz.prog 154 [.str s0, .int .u8 c.toNat] (.int .i64 r) := by
 refine pure_of_calls ⟨Tryz.f154, Tryz.func154, by rfl, by rfl⟩ fun imm w vals ha => ?_
 obtain ⟨a, b, rfl, h1, h2⟩ := vals2 ha
 cases h1 with
 | str s l hs hb =>
  cases h2 with
  | int k n hn =>
   refine (ixb_any s _ w).mono fun e w' he => ?_
   obtain ⟨rfl, rfl⟩ := he
   refine ⟨_, rfl, ?_, rfl⟩
   rw [hs]
   have e2 : ((c.toNat : Int).toNat).toUInt8 = c := by simp
   rw [e2]
   cases h
   refine .int .i64 _ ?_
   have := Lib.indexByte_ge s0 c
   have := zGL c s0
   simp only [inR]
   omega
theorem zHA (s0 t0 : List UInt8) (r : List UInt8 × List UInt8 × Bool) (h : zEF s0 t0 = some r) : Pure Tryz.prog 61 [.str s0, .str t0] (.tup [.str r.1, .str r.2.1, .bool r.2.2]) := by
 refine zD1 ⟨Tryz.f61, Tryz.func61, by rfl, by rfl⟩ fun imm w vals him hgl htb ha => ?_
 obtain ⟨a, b, rfl, h1, h2⟩ := vals2 ha
 unfold zEF at h
 split at h
 case isFalse => cases h
 rename_i hlen
 cases h
 cases h1 with
 | str s l hs hb =>
  cases h2 with
  | str t l2 ht hb2 =>
   obtain ⟨m, hm⟩ := hgl 0 (by simp [gl])
   have z1 : s.size = s0.length := by rw [← hs]; exact Array.length_toList.symm
   refine (Tryz.strings_Cut s t m w (by omega) (him _ _ hm)).mono fun e w' he => ?_
   obtain ⟨rfl, n, rfl⟩ := he
   have hc : (Lib.cut s0 t0).1.length ≤ s0.length ∧ (Lib.cut s0 t0).2.1.length ≤ s0.length := by
    unfold Lib.cut
    split
    ·refine ⟨?_, ?_⟩
     ·show (s0.take _).length ≤ _; rw [List.length_take]; omega
     ·show (s0.drop _).length ≤ _; rw [List.length_drop]; omega
    ·exact ⟨Nat.le_refl _, Nat.zero_le _⟩
   rw [hs, ht]
   refine ⟨_, rfl, .tup _ _ (by rfl) fun i x hx => ?_, ⟨rfl, rfl, rfl, Nat.le_refl _, fun _ _ => rfl⟩⟩
   match i, hx with
   | 0, hx => cases hx; exact .str _ _ rfl (by omega)
   | 1, hx => cases hx; exact .str _ _ rfl (by omega)
   | 2, hx => cases hx; exact .bool _
   | (n + 3), hx => simp at hx
theorem zGe (l : List (List UInt8)) (s : List UInt8) (r : List UInt8) (h : zDl l s = some r) : Pure Tryz.prog 71 [.sl (l.map cS), .str s] (.str r) := by
 refine zD1 ⟨Tryz.f71, Tryz.func71, by rfl, by rfl⟩ fun imm w vals him hgl htb ha => ?_
 obtain ⟨a, b, rfl, h1, h2⟩ := vals2 ha
 unfold zDl at h
 split at h
 case isFalse => cases h
 rename_i hlen
 cases h
 cases h2 with
 | str sb _ hs hb =>
  have := bytes_of hs; subst this
  cases l with
  | nil =>
   have hv : ∃ ad c, a = .slice ad 0 c := by
    cases h1 with
    | sl0 => exact ⟨none, 0, rfl⟩
    | sl ec L ad n cap vs hn hc hbd he h r => exact ⟨some ad, cap, by rw [hn]; rfl⟩
   obtain ⟨ad, c, rfl⟩ := hv
   refine (Tryz.strings_Join_none ad c _ w).mono fun e w' he => ?_
   obtain ⟨rfl, rfl⟩ := he
   refine ⟨_, rfl, .str _ _ ?_ (by simp [Lib.join_nil]), Below.refl _ _⟩
   rw [Lib.join_nil]
  | cons x l =>
   cases h1 with
   | sl ec L ad n cap vs hn hc hbd he hh rr =>
    have hec : ec = 1 := (he 0 _ rfl).symm
    subst hec
    have h0 := him _ _ (hh 0 _ rfl 0 _ rfl)
    obtain ⟨bk, o, sp⟩ := ad
    have hlt := World.block_lt_of_cell? _ _ h0
    rw [zCu] at hlt
    have hsp : sp = none := by
     cases sp with
     | none => rfl
     | some q =>
      have : ((⟨bk, o, some q⟩ : Addr).add (0 * 1 + 0)) = ⟨bk, o, some q⟩ := by simp [Addr.add]
      rw [this] at h0
      simp only [World.cell?, Option.isSome_some, if_true] at h0
      split at h0 <;> cases h0
    subst hsp
    obtain ⟨xs, h1, h2, h3⟩ : ∃ xs : List ByteArray, xs.map (·.data.toList) = x :: l ∧ xs.length = n ∧ ∀ (j : Nat) y, xs[j]? = some y → ∃ z, (x :: l)[j]? = some z ∧ (⟨z.toArray⟩ : ByteArray) = y :=
     ⟨(x :: l).map fun b => (⟨b.toArray⟩ : ByteArray), map_bytes _, by rw [hn]; simp, fun j y hy => (by obtain ⟨z, hz, e⟩ := getElem?_map_some hy; exact ⟨z, hz, e.symm⟩)⟩
    rw [← h1] at hlen
    have hcap : xs.length ≤ cap := by rw [h2]; exact hc
    have hN : xs.length ≤ 140737488355328 := by have := hlen.1; rw [List.length_map] at this; exact this
    have hcells : ∀ (j : Nat) y, xs[j]? = some y → w.cell? ⟨bk, o + j, none⟩ = some (.string y) := by
     intro j y hy
     obtain ⟨z, hz, rfl⟩ := h3 j y hy
     have hm : ((x :: l).map cS)[j]? = some (cS z) := by rw [List.getElem?_map, hz]; rfl
     have e1 := him _ _ (hh j _ hm 0 _ rfl)
     have e2 := rr j _ hm 0 (.str z) rfl
     generalize vs j 0 = u at e1 e2
     cases e2 with
     | str sz _ hsz _ =>
      have := bytes_of hsz; subst this
      have : ((⟨bk, o, none⟩ : Addr).add (j * 1 + 0)) = ⟨bk, o + j, none⟩ := by
       unfold Addr.add
       split
       ·rename_i h0; have : j = 0 := by omega
        subst this; rfl
       ·simp
      rw [this] at e1
      exact e1
    have hjl : (Lib.join (xs.map (·.data.toList)) (⟨s.toArray⟩ : ByteArray).data.toList).length ≤ 140737488355328 := hlen.2
    have key := Tryz.strings_Join bk o cap xs ⟨s.toArray⟩ w hcells hlt hN hcap hjl
    rw [h2] at key
    refine key.mono fun e w' he => ?_
    obtain ⟨rfl, hbel⟩ := he
    rw [h1] at hlen
    refine ⟨_, rfl, .str _ _ (by rw [h1]) (Nat.le_trans hlen.2 (by decide)), hbel⟩
end Go.Proofs.YtlekkicnlddhlaaGreatDoor
namespace Go.Proofs.YtlekkicnlddhlaaGreatDoor
open Go Go.Abs
def libHas (f : FuncId) : Bool :=
 f == 139
 || f == 69
 || f == 70
 || f == 173
 || f == 61
 || f == 154
 || f == 71
def libTab : Calling := fun f args bs =>
 if f = 139 then match args, bs with
  | [.mptr 0 0], [[.baddr t 0, x]] => if t = 113 then some (.raw (.tup []) [[.baddr t 0, x]] []) else none
  | _, _ => none
 else if f = 69 then match args, bs with
  | [.mptr 0 0], [[.baddr t 0, .osl ⟨1, u⟩ l]] => if t = 113 ∧ u = 5 then (match ubytes l with
   | some b => some (.raw (.str b) [[.baddr t 0, .osl ⟨1, u⟩ l]] [])
   | none => none) else none
  | _, _ => none
 else if f = 70 then match args with
  | [.int .i64 n] => (zB0 n).map fun r => .pure (.str r)
  | _ => none
 else if f = 173 then match args with
  | [.str s] => (zBa s).map fun r => .pure (.sl (r.map cS))
  | _ => none
 else if f = 61 then match args with
  | [.str s, .str t] => (zEF s t).map fun r => .pure (.tup [.str r.1, .str r.2.1, .bool r.2.2])
  | _ => none
 else if f = 154 then match args with
  | [.str s, .int .u8 n] => if 0 ≤ n ∧ n ≤ 255 then (zCY s (UInt8.ofNat n.toNat)).map fun r => .pure (.int .i64 r) else none
  | _ => none
 else if f = 71 then match args with
  | [.sl l, .str s] => (match strsOf l with
   | some l' => (zDl l' s).map fun r => .pure (.str r)
   | none => none)
  | _ => none
 else none
theorem mapR {α : Type} {o : Option α} {g : α → AV} {x : CR} (h : (o.map fun r => CR.pure (g r)) = some x) : ∃ r, o = some r ∧ x = .pure (g r) := by
 cases o with
 | none => cases h
 | some r => exact ⟨r, rfl, (Option.some.inj h).symm⟩
theorem libTab_ok : TabOk Tryz.prog libTab := by
 have key : ∀ f args bs x, libTab f args bs = some x → (∃ r, x = .pure r ∧ Pure Tryz.prog f args r ∧ r.owns = false) ∨ ∃ r bs' ρ, x = .raw r bs' ρ ∧ Raw Tryz.prog f args bs r bs' ∧ r.owns = false := by
  intro f args bs x h
  unfold libTab at h
  split at h
  ·rename_i hf; subst hf
   split at h
   ·split at h
    ·rename_i ht; subst ht
     cases h
     exact .inr ⟨_, _, _, rfl, copyCheck_raw _, rfl⟩
    ·cases h
   ·cases h
  split at h
  ·rename_i hf; subst hf
   split at h
   ·split at h
    ·rename_i ht; obtain ⟨rfl, rfl⟩ := ht
     split at h
     ·rename_i b hb
      cases h
      obtain rfl := ubytes_ok hb
      exact .inr ⟨_, _, _, rfl, zDM b b rfl, rfl⟩
     ·cases h
    ·cases h
   ·cases h
  split at h
  ·rename_i hf; subst hf
   split at h
   ·obtain ⟨r, h1, rfl⟩ := mapR h
    exact .inl ⟨_, rfl, zEX _ _ h1, rfl⟩
   ·cases h
  split at h
  ·rename_i hf; subst hf
   split at h
   ·obtain ⟨r, h1, rfl⟩ := mapR h
    exact .inl ⟨_, rfl, zDn _ _ h1, rfl⟩
   ·cases h
  split at h
  ·rename_i hf; subst hf
   split at h
   ·obtain ⟨r, h1, rfl⟩ := mapR h
    exact .inl ⟨_, rfl, zHA _ _ _ h1, rfl⟩
   ·cases h
  split at h
  ·rename_i hf; subst hf
   split at h
   ·split at h
    ·rename_i hn
     obtain ⟨r, h1, rfl⟩ := mapR h
     have := zDU _ _ _ h1
     rw [u8_back hn] at this
     exact .inl ⟨_, rfl, this, rfl⟩
    ·cases h
   ·cases h
  split at h
  ·rename_i hf; subst hf
   split at h
   ·split at h
    ·rename_i l' hl
     obtain ⟨r, h1, rfl⟩ := mapR h
     obtain rfl := strsOf_ok hl
     exact .inl ⟨_, rfl, zGe _ _ _ h1, rfl⟩
    ·cases h
   ·cases h
  cases h
 constructor
 ·intro f args bs res h
  rcases key f args bs _ h with ⟨r, e, h1⟩ | ⟨r, bs', ρ, e, h1⟩
  ·cases e; exact h1
  ·cases e
 ·intro f args bs res bs' ρ h
  rcases key f args bs _ h with ⟨r, e, h1⟩ | ⟨r, bs1, ρ1, e, h1⟩
  ·cases e
  ·cases e; exact h1
theorem lib_ok : zBZ Tryz.prog (libC libHas libTab) := libC_ok libTab_ok
def isNo : Option CR → Bool
 | some (.pure (.sl [])) => true
 | _ => false
theorem isNo_ok {P : Program} {ce : Calling} (h : zBZ P ce) {f : FuncId} {args : List AV} (hy : isNo (ce f args []) = true) : Pure P f args (.sl []) := by
 unfold isNo at hy
 split at hy
 ·rename_i hb
  exact (h.1 _ _ _ _ hb).1
 ·cases hy
theorem zDV : isNo (callN Tryz.prog (libC libHas libTab) 1000 10 78 [.sl []] []) = true := by decide +kernel
theorem zDs (s1 : (List (List UInt8))) (r : (List (List UInt8))) (h : zBX s1 = some r) : Pure Tryz.prog 78 [.sl (s1.map cS)] (.sl (r.map cS)) := by
 cases s1 with
 | nil =>
  cases h
  exact isNo_ok (callN_ok lib_ok mixed 1000 10) zDV
 | cons x s =>
  have q4 : x :: s ≠ [] := by simp
  rw [zBX] at h
  generalize x :: s = s1 at h q4
  refine zFS [true] Tryz.func78 (by rfl) (by rfl) (by simp) (by simp) (by simp) ?_
  refine cut 8 0 [(0, .sl (s1.map cS))] [] ?_ ?_
  ·refine st ?_
   simp
  refine zAF ?_
  refine cut 8 0 [(0, .sl (s1.map cS)), (4, .bool false)] [] ?_ ?_
  ·refine st ?_
   simp [q4]
  refine zGV rfl rfl ?_
  refine zAG ?_
  refine zAd ?_
  obtain ⟨q7, q8⟩ := clC_ok h
  subst q8
  have q9 := clC_row (cS) s1
  try simp at q9
  refine cut 8 0 [(2, .msl 0 1 s1.length)] [row cS s1] ?_ ?_
  ·refine st ?_
   simp [q7, q9]
   refine empR ?_
   simp [q7, q9]
  refine zAB ?_
  simp
theorem zGk : yes (callN Tryz.prog (libC libHas libTab) 100000 100 5 [] []) = true := by decide +kernel
theorem zHW (r : Bool) (h : zEH = some r) : Pure Tryz.prog 5 [] (.bool r) := by
 cases h
 exact yes_ok (callN_ok lib_ok mixed 100000 100) zGk
theorem zHV (fuel : Nat) : (∀ (p1 : zHm) (depth2 : Int) (c3 : Int) (r : Int) (_ : zAz fuel p1 depth2 c3 = some r), Raw Tryz.prog 21 [.agg [.int .i64 p1.Op, .int .i64 p1.N, .str p1.S, .sl (p1.L.map zHm.c)], .int .i64 depth2, .mptr 0 0, .mptr 1 0] [[.int .i64 c3], [.fn (.func 21) [] [.mptr 0 0, .mptr 1 0]]] (.tup []) [[.int .i64 r], [.fn (.func 21) [] [.mptr 0 0, .mptr 1 0]]]) := by
 induction fuel with
 | zero => intro p1 depth2 c3 r h; rw [zAz] at h; cases h
 | succ fuel zE4 =>
  intro p1 depth2 c3 r h
  rw [zAz] at h
  refine zBh Tryz.func21 (by rfl) (by rfl) (by simp) (by simp) <| cutA 43 2 [(1, .int .i64 depth2), (2, .mptr 0 0), (3, .mptr 1 0), (4, .mptr 2 0)] [[.int .i64 c3], [.fn (.func 21) [] [.mptr 0 0, .mptr 1 0]], (zHm.d p1)] ?_
  obtain ⟨n4, q5, h⟩ := bs h
  obtain ⟨q6, q7⟩ := zFI q5
  try simp at q6
  try simp at q7
  have c8 := q6; simp only [Rng, inR] at c8
  refine cut 43 2 [(1, .int .i64 depth2), (2, .mptr 0 0), (3, .mptr 1 0), (4, .mptr 2 0)] [[.int .i64 n4], [.fn (.func 21) [] [.mptr 0 0, .mptr 1 0]], (zHm.d p1)] (st (by simp [q6, q7])) <| zAF <| cut 43 2 [(1, .int .i64 depth2), (2, .mptr 0 0), (3, .mptr 1 0), (4, .mptr 2 0), (22, .bool ((ltI 50 depth2) || ((ltI 20 (p1.L.length : Int)) || (ltI 200 (p1.S.length : Int)))))] [[.int .i64 n4], [.fn (.func 21) [] [.mptr 0 0, .mptr 1 0]], (zHm.d p1)] ?_ ?_
  ·rcases tf (ltI 50 depth2) with g9 | g9
   ·have c10 := ltT g9
    refine st ?_
    simp [g9]
   have c11 := ltF g9
   rcases tf (ltI 20 (p1.L.length : Int)) with g12 | g12
   ·have c13 := ltT g12
    refine zCg 2 3 rfl rfl rfl fun f14 => ?_
    rw [List.length_map] at f14
    refine st ?_
    simp [g9, g12]
   have c15 := ltF g12
   refine zCg 2 3 rfl rfl rfl fun f16 => ?_
   rw [List.length_map] at f16
   refine st ?_
   simp [g9, g12]
  rcases sp h with ⟨g17, h⟩ | ⟨g17, h⟩
  ·refine zGU rfl g17 <| lastA 43 2 [(1, .int .i64 depth2), (2, .mptr 0 0), (3, .mptr 1 0), (4, .mptr 2 0)] [[.int .i64 1000], [.fn (.func 21) [] [.mptr 0 0, .mptr 1 0]], (zHm.d p1)] <| cutA 43 2 [(1, .int .i64 depth2), (2, .mptr 0 0), (3, .mptr 1 0), (4, .mptr 2 0), (6, .int .i64 0)] [[.int .i64 1000], [.fn (.func 21) [] [.mptr 0 0, .mptr 1 0]], (zHm.d p1)] <| zAL ?_
   obtain ⟨o20, l21, h⟩ := bs h
   refine zBq (fun p : Nat × Int × Nat => mkS 43 2 [(1, .int .i64 depth2), (2, .mptr 0 0), (3, .mptr 1 0), (4, .mptr 2 0), (6, .int .i64 p.2.2)] [[.int .i64 p.2.1], [.fn (.func 21) [] [.mptr 0 0, .mptr 1 0]], (zHm.d p1)]) (fun p => zBc (zAz fuel) p1 depth2 p.1 p.2.1 p.2.2 = some o20) (fun p => p.1) (fuel, 1000, 0) l21 (zBO (by simp)) ?_
   rintro ⟨k22, a18, i19⟩ l21
   try dsimp only at l21 ⊢
   cases k22 with
   | zero =>
    rw [zBc] at l21; cases l21
   | succ k23 =>
    rw [zBc] at l21
    refine zAF <| cut 43 2 [(1, .int .i64 depth2), (2, .mptr 0 0), (3, .mptr 1 0), (4, .mptr 2 0), (6, .int .i64 i19), (31, .bool ((ltI ((i19 : Nat) : Int) (p1.L.length : Int)) && (leI a18 200)))] [[.int .i64 a18], [.fn (.func 21) [] [.mptr 0 0, .mptr 1 0]], (zHm.d p1)] ?_ ?_
    ·rcases tf (ltI ((i19 : Nat) : Int) (p1.L.length : Int)) with g24 | g24
     ·have c25 := ltT g24
      refine zCg 2 3 rfl rfl rfl fun f26 => ?_
      rw [List.length_map] at f26
      refine st ?_
      simp [g24]
     have c27 := ltF g24
     refine zCg 2 3 rfl rfl rfl fun f28 => ?_
     rw [List.length_map] at f28
     refine st ?_
     simp [g24]
    rcases sp l21 with ⟨g29, l21⟩ | ⟨g29, l21⟩
    ·obtain ⟨g30, g31⟩ := andT g29
     have c32 := ltT g30
     have c34 := leT g31
     refine zGU rfl g29 <| zCg 2 3 rfl rfl rfl fun f33 => ?_
     rw [List.length_map] at f33
     refine zAG <| zAd <| zAF <| zAL ?_
     obtain ⟨x35, q36, l21⟩ := bs l21
     obtain ⟨n37, q38, l21⟩ := bs l21
     obtain ⟨q39, q40⟩ := zFI q38
     try simp at q39
     try simp at q40
     have c41 := q39; simp only [Rng, inR] at c41
     obtain ⟨v42, q43, l21⟩ := bs l21
     refine last 43 2 [(1, .int .i64 depth2), (2, .mptr 0 0), (3, .mptr 1 0), (4, .mptr 2 0), (6, .int .i64 i19)] [[.int .i64 v42], [.fn (.func 21) [] [.mptr 0 0, .mptr 1 0]], (zHm.d p1)] ?_ fun zz hs => ?_
     ·refine zA4 [] [8] mixed (n := 43) rfl (by decide) (by decide) ?_
      simp [q36, q39, q40]
      have r45 := (zE4 x35 n37 a18 v42 q43).frame [0, 1] [[.int .i64 a18], [.fn (.func 21) [] [.mptr 0 0, .mptr 1 0]], [.int .i64 p1.Op, .int .i64 p1.N, .str p1.S, .sl (p1.L.map zHm.c)]] (by simp)
      try simp [q36, q39, q40] at r45
      refine callX r45 (by simp [q36, q39, q40]) rfl ?_
      simp [q36, q39, q40]
     refine zEo <| zCL ?_ hs
     have q44 : Rng .i64 (((i19 : Nat) : Int) + 1) := by simp only [Rng, inR]; omega
     try simp at q44
     refine last 43 2 [(1, .int .i64 depth2), (2, .mptr 0 0), (3, .mptr 1 0), (4, .mptr 2 0), (6, .int .i64 ((i19 + 1 : Nat) : Int))] [[.int .i64 v42], [.fn (.func 21) [] [.mptr 0 0, .mptr 1 0]], (zHm.d p1)] (st (by simp [q44])) fun zz hs => ?_
     exact ⟨(k23, v42, i19 + 1), hs, l21, by simp⟩
    refine zGV rfl g29 <| zBA <| zAX ?_
    have q46 := Option.some.inj l21
    have q46 := q46.symm
    refine zAX <| zBC ?_
    obtain rfl := oi h
    simp [q46]
  obtain ⟨g47, g48⟩ := orF g17
  have c49 := ltF g47
  obtain ⟨g50, g51⟩ := orF g48
  have c52 := ltF g50
  have c54 := ltF g51
  refine zGV rfl g17 <| zCg 2 3 rfl rfl rfl fun f53 => ?_
  rw [List.length_map] at f53
  refine factCS 2 2 rfl rfl fun f55 => ?_
  refine zAG <| zAd <| cutA 43 2 [(1, .int .i64 depth2), (2, .mptr 0 0), (3, .mptr 1 0), (4, .mptr 2 0), (6, .int .i64 0)] [[.int .i64 n4], [.fn (.func 21) [] [.mptr 0 0, .mptr 1 0]], (zHm.d p1)] <| zAL ?_
  obtain ⟨o58, l59, h⟩ := bs h
  refine zBq (fun p : Nat × Int × Nat => mkS 43 2 [(1, .int .i64 depth2), (2, .mptr 0 0), (3, .mptr 1 0), (4, .mptr 2 0), (6, .int .i64 p.2.2)] [[.int .i64 p.2.1], [.fn (.func 21) [] [.mptr 0 0, .mptr 1 0]], (zHm.d p1)]) (fun p => zA8 (zAz fuel) p1 depth2 p.1 p.2.1 p.2.2 = some o58) (fun p => p.1) (fuel, n4, 0) l59 (zBO (by simp)) ?_
  rintro ⟨k60, a56, i57⟩ l59
  try dsimp only at l59 ⊢
  cases k60 with
  | zero =>
   rw [zA8] at l59; cases l59
  | succ k61 =>
   rw [zA8] at l59
   refine zAF <| cut 43 2 [(1, .int .i64 depth2), (2, .mptr 0 0), (3, .mptr 1 0), (4, .mptr 2 0), (6, .int .i64 i57), (31, .bool ((ltI ((i57 : Nat) : Int) (p1.L.length : Int)) && (leI a56 200)))] [[.int .i64 a56], [.fn (.func 21) [] [.mptr 0 0, .mptr 1 0]], (zHm.d p1)] ?_ ?_
   ·rcases tf (ltI ((i57 : Nat) : Int) (p1.L.length : Int)) with g62 | g62
    ·have c63 := ltT g62
     refine st ?_
     simp [g62]
    have c64 := ltF g62
    refine st ?_
    simp [g62]
   rcases sp l59 with ⟨g65, l59⟩ | ⟨g65, l59⟩
   ·obtain ⟨g66, g67⟩ := andT g65
    have c68 := ltT g66
    have c69 := leT g67
    refine zGU rfl g65 <| zAG <| zAd <| zAF <| zAL ?_
    obtain ⟨x70, q71, l59⟩ := bs l59
    obtain ⟨n72, q73, l59⟩ := bs l59
    obtain ⟨q74, q75⟩ := zFI q73
    try simp at q74
    try simp at q75
    have c76 := q74; simp only [Rng, inR] at c76
    obtain ⟨v77, q78, l59⟩ := bs l59
    refine last 43 2 [(1, .int .i64 depth2), (2, .mptr 0 0), (3, .mptr 1 0), (4, .mptr 2 0), (6, .int .i64 i57)] [[.int .i64 v77], [.fn (.func 21) [] [.mptr 0 0, .mptr 1 0]], (zHm.d p1)] ?_ fun zz hs => ?_
    ·refine zA4 [] [8] mixed (n := 43) rfl (by decide) (by decide) ?_
     simp [q71, q74, q75]
     have r80 := (zE4 x70 n72 a56 v77 q78).frame [0, 1] [[.int .i64 a56], [.fn (.func 21) [] [.mptr 0 0, .mptr 1 0]], [.int .i64 p1.Op, .int .i64 p1.N, .str p1.S, .sl (p1.L.map zHm.c)]] (by simp)
     try simp [q71, q74, q75] at r80
     refine callX r80 (by simp [q71, q74, q75]) rfl ?_
     simp [q71, q74, q75]
    refine zEo <| zCL ?_ hs
    have q79 : Rng .i64 (((i57 : Nat) : Int) + 1) := by simp only [Rng, inR]; omega
    try simp at q79
    refine last 43 2 [(1, .int .i64 depth2), (2, .mptr 0 0), (3, .mptr 1 0), (4, .mptr 2 0), (6, .int .i64 ((i57 + 1 : Nat) : Int))] [[.int .i64 v77], [.fn (.func 21) [] [.mptr 0 0, .mptr 1 0]], (zHm.d p1)] (st (by simp [q79])) fun zz hs => ?_
    exact ⟨(k61, v77, i57 + 1), hs, l59, by simp⟩
   refine zGV rfl g65 <| zBA <| zAX ?_
   have q81 := Option.some.inj l59
   have q81 := q81.symm
   refine zAX <| zBC ?_
   obtain rfl := oi h
   simp [q81]
theorem zBi (fuel : Nat) (p1 : zHm) (r : Bool) (h : zCj fuel p1 = some r) : Pure Tryz.prog 6 [.agg [.int .i64 p1.Op, .int .i64 p1.N, .str p1.S, .sl (p1.L.map zHm.c)]] (.bool r) := by
 rw [zCj] at h
 refine zAC Tryz.func6 (by rfl) (by rfl) (by simp) (by simp) (by simp) <| cutA 11 0 [(1, .mptr 0 0)] [(zHm.d p1)] <| cutA 11 0 [(1, .mptr 0 0), (3, .mptr 1 0)] [(zHm.d p1), [.int .i64 0]] <| cutA 11 0 [(1, .mptr 0 0), (3, .mptr 1 0), (4, .mptr 2 0)] [(zHm.d p1), [.int .i64 0], [.nilfn]] <| cutA 11 0 [(1, .mptr 0 0), (3, .mptr 1 0), (4, .mptr 2 0)] [(zHm.d p1), [.int .i64 0], [.fn (.func 21) [] [.mptr 1 0, .mptr 2 0]]] ?_
 obtain ⟨v2, q3, h⟩ := bs h
 refine cut 11 0 [(3, .mptr 1 0)] [(zHm.d p1), [.int .i64 v2], [.fn (.func 21) [] [.mptr 1 0, .mptr 2 0]]] ?_ ?_
 ·refine st ?_
  simp
  have r4 := (zHV fuel p1 1 0 v2 q3).frame [1, 2] [[.int .i64 p1.Op, .int .i64 p1.N, .str p1.S, .sl (p1.L.map zHm.c)], [.int .i64 0], [.fn (.func 21) [] [.mptr 1 0, .mptr 2 0]]] (by simp)
  try simp at r4
  refine zA3 r4 (by simp) rfl ?_
  simp
 refine cutA 11 0 [(2, .bool (ltI 200 v2))] [(zHm.d p1), [.int .i64 v2], [.fn (.func 21) [] [.mptr 1 0, .mptr 2 0]]] <| zAB ?_
 obtain rfl := oi h
 simp
theorem zFb (s1 : (List UInt8)) (r : Bool) (h : zCU s1 = some r) : Pure Tryz.prog 24 [.str s1] (.bool r) := by
 rw [zCU] at h
 refine zAC Tryz.func24 (by rfl) (by rfl) (by simp) (by simp) (by simp) <| cutA 6 0 [(0, .str s1)] [] <| cutA 6 0 [(2, .bool (ltI 100 (s1.length : Int)))] [] <| zAB ?_
 obtain rfl := oi h
 simp
theorem zCK (fuel : Nat) (s1 : (List (List UInt8))) (r : Int) (h : zAi fuel s1 = some r) : Pure Tryz.prog 44 [.sl (s1.map cS), .fn (.func 24) [] []] (.int .i64 r) := by
 rw [zAi] at h
 refine zAC Tryz.func44 (by rfl) (by rfl) (by simp) (by simp) (by simp) <| cutA 19 0 [(0, .sl (s1.map cS)), (1, .fn (.func 24) [] [])] [] <| zAF <| cutA 19 0 [(0, .sl (s1.map cS)), (1, .fn (.func 24) [] []), (7, .int .i64 s1.length), (8, .int .i64 0)] [] <| zAL ?_
 obtain ⟨o4, l5, h⟩ := bs h
 refine zBq (fun p : Nat × Nat => mkS 19 0 [(0, .sl (s1.map cS)), (1, .fn (.func 24) [] []), (7, .int .i64 s1.length), (8, .int .i64 p.2)] []) (fun p => zAK s1 p.1 p.2 = some o4) (fun p => p.1) (fuel, 0) l5 (zBO (by simp)) ?_
 rintro ⟨k6, i2⟩ l5
 try dsimp only at l5 ⊢
 cases k6 with
 | zero =>
  rw [zAK] at l5; cases l5
 | succ k7 =>
  rw [zAK] at l5
  refine cutA 19 0 [(0, .sl (s1.map cS)), (1, .fn (.func 24) [] []), (7, .int .i64 s1.length), (8, .int .i64 i2), (9, .bool (ltI ((i2 : Nat) : Int) (s1.length : Int)))] [] <| zAF <| spc l5 rfl (fun g8 l5 => ?_) fun g8 l5 => ?_
  ·have c9 := ltT g8
   refine zER 0 rfl fun f10 => ?_
   rw [List.length_map] at f10
   refine zAG <| zAd <| zAF <| zAL <| cutA 19 0 [(0, .sl (s1.map cS)), (1, .fn (.func 24) [] []), (5, .int .i64 i2), (7, .int .i64 s1.length), (8, .int .i64 i2)] [] ?_
   obtain ⟨x11, q12, l5⟩ := bs l5
   obtain ⟨v13, q14, l5⟩ := bs l5
   refine cut 19 0 [(0, .sl (s1.map cS)), (1, .fn (.func 24) [] []), (5, .int .i64 i2), (7, .int .i64 s1.length), (8, .int .i64 i2), (16, .bool v13)] [] ?_ ?_
   ·refine st ?_
    simp [q12]
    have r17 := zFb x11 v13 q14
    try simp [q12] at r17
    refine zAD r17 (by simp) rfl ?_
    simp [q12]
   refine spc l5 rfl (fun g15 l5 => ?_) fun g15 l5 => ?_
   ·refine cutA 19 0 [(4, .int .i64 i2)] [] <| zAB <| zAY <| zAH ?_
    replace h := retL l5 h
    refine zAH <| zAY <| zAH ?_
    obtain rfl := oi h
    simp
   refine zAG <| zEo <| zAd ?_
   have q16 : Rng .i64 (((i2 : Nat) : Int) + 1) := by simp only [Rng, inR]; omega
   try simp at q16
   refine last 19 0 [(0, .sl (s1.map cS)), (1, .fn (.func 24) [] []), (7, .int .i64 s1.length), (8, .int .i64 ((i2 + 1 : Nat) : Int))] [] (st (by simp [q16])) fun zz hs => ?_
   exact ⟨(k7, i2 + 1), hs, l5, by simp⟩
  have c18 := ltF g8
  refine zER 0 rfl fun f19 => ?_
  rw [List.length_map] at f19
  refine zBA <| zAX ?_
  rcases o4 with o4 | o3
  ·cases l5
  have q20 := Sum.inr.inj (Option.some.inj l5)
  replace h := elimR h
  refine zAX <| zBC <| zCL (t := mkS 19 0 [] []) ?_ (zBO (by simp))
  refine cutA 19 0 [(4, .int .i64 (-1))] [] <| zAB ?_
  obtain rfl := oi h
  simp
theorem zB2 (fuel : Nat) (s1 : (List (List UInt8))) (r : Bool) (h : zAW fuel s1 = some r) : Pure Tryz.prog 23 [.sl (s1.map cS), .fn (.func 24) [] []] (.bool r) := by
 rw [zAW] at h
 refine zAC Tryz.func23 (by rfl) (by rfl) (by simp) (by simp) (by simp) <| cutA 9 0 [(0, .sl (s1.map cS)), (1, .fn (.func 24) [] [])] [] ?_
 obtain ⟨v2, q3, h⟩ := bs h
 refine cut 9 0 [(4, .bool (leI 0 v2))] [] ?_ ?_
 ·refine st ?_
  simp
  have r4 := zCK fuel s1 v2 q3
  try simp at r4
  refine zAD r4 (by simp) rfl ?_
  simp
 refine zAB ?_
 obtain rfl := oi h
 simp
theorem zGj (fuel : Nat) : (∀ (v1 : zHl) (depth2 : Int) (c3 : Int) (r : Int) (_ : zAj fuel v1 depth2 c3 = some r), Raw Tryz.prog 22 [.agg [.int .i64 v1.Op, .int .i64 v1.N, .str v1.S, .sl (v1.Names.map cS), .sl (v1.L.map zHl.c)], .int .i64 depth2, .mptr 0 0, .mptr 1 0] [[.int .i64 c3], [.fn (.func 22) [] [.mptr 0 0, .mptr 1 0]]] (.tup []) [[.int .i64 r], [.fn (.func 22) [] [.mptr 0 0, .mptr 1 0]]]) := by
 induction fuel with
 | zero => intro v1 depth2 c3 r h; rw [zAj] at h; cases h
 | succ fuel zEZ =>
  intro v1 depth2 c3 r h
  rw [zAj] at h
  refine zBh Tryz.func22 (by rfl) (by rfl) (by simp) (by simp) <| cutA 54 2 [(1, .int .i64 depth2), (2, .mptr 0 0), (3, .mptr 1 0), (4, .mptr 2 0)] [[.int .i64 c3], [.fn (.func 22) [] [.mptr 0 0, .mptr 1 0]], (zHl.d v1)] ?_
  obtain ⟨n4, q5, h⟩ := bs h
  obtain ⟨q6, q7⟩ := zFI q5
  try simp at q6
  try simp at q7
  have c8 := q6; simp only [Rng, inR] at c8
  refine cut 54 2 [(1, .int .i64 depth2), (2, .mptr 0 0), (3, .mptr 1 0), (4, .mptr 2 0)] [[.int .i64 n4], [.fn (.func 22) [] [.mptr 0 0, .mptr 1 0]], (zHl.d v1)] (st (by simp [q6, q7])) <| zAF ?_
  obtain ⟨b29, q30, h⟩ := bs h
  refine cut 54 2 [(1, .int .i64 depth2), (2, .mptr 0 0), (3, .mptr 1 0), (4, .mptr 2 0), (33, .bool b29)] [[.int .i64 n4], [.fn (.func 22) [] [.mptr 0 0, .mptr 1 0]], (zHl.d v1)] ?_ ?_
  ·rcases sp q30 with ⟨g9, q30⟩ | ⟨g9, q30⟩
   ·have c10 := ltT g9
    obtain rfl := oi q30
    refine st ?_
    simp [g9]
   have c11 := ltF g9
   rcases sp q30 with ⟨g12, q30⟩ | ⟨g12, q30⟩
   ·have c13 := ltT g12
    refine zCg 2 4 rfl rfl rfl fun f14 => ?_
    rw [List.length_map] at f14
    obtain rfl := oi q30
    refine st ?_
    simp [g9, g12]
   have c15 := ltF g12
   refine zCg 2 4 rfl rfl rfl fun f16 => ?_
   rw [List.length_map] at f16
   rcases sp q30 with ⟨g17, q30⟩ | ⟨g17, q30⟩
   ·have c18 := ltT g17
    refine zCg 2 3 rfl rfl rfl fun f19 => ?_
    rw [List.length_map] at f19
    obtain rfl := oi q30
    refine st ?_
    simp [g9, g12, g17]
   have c20 := ltF g17
   refine zCg 2 3 rfl rfl rfl fun f21 => ?_
   rw [List.length_map] at f21
   rcases sp q30 with ⟨g22, q30⟩ | ⟨g22, q30⟩
   ·have c23 := ltT g22
    refine factCS 2 2 rfl rfl fun f24 => ?_
    obtain rfl := oi q30
    refine st ?_
    simp [g9, g12, g17, g22]
   have c25 := ltF g22
   refine factCS 2 2 rfl rfl fun f26 => ?_
   obtain ⟨v27, q28, q30⟩ := bs q30
   obtain rfl := oi q30
   refine st ?_
   simp [g9, g12, g17, g22]
   have r90 := zB2 fuel v1.Names v27 q28
   try simp [g9, g12, g17, g22] at r90
   refine zAD r90 (by simp) rfl ?_
   simp [g9, g12, g17, g22]
  refine spc h rfl (fun g31 h => ?_) fun g31 h => ?_
  ·refine lastA 54 2 [(1, .int .i64 depth2), (2, .mptr 0 0), (3, .mptr 1 0), (4, .mptr 2 0)] [[.int .i64 1000], [.fn (.func 22) [] [.mptr 0 0, .mptr 1 0]], (zHl.d v1)] <| cutA 54 2 [(1, .int .i64 depth2), (2, .mptr 0 0), (3, .mptr 1 0), (4, .mptr 2 0), (6, .int .i64 0)] [[.int .i64 1000], [.fn (.func 22) [] [.mptr 0 0, .mptr 1 0]], (zHl.d v1)] <| zAL ?_
   obtain ⟨o34, l35, h⟩ := bs h
   refine zBq (fun p : Nat × Int × Nat => mkS 54 2 [(1, .int .i64 depth2), (2, .mptr 0 0), (3, .mptr 1 0), (4, .mptr 2 0), (6, .int .i64 p.2.2)] [[.int .i64 p.2.1], [.fn (.func 22) [] [.mptr 0 0, .mptr 1 0]], (zHl.d v1)]) (fun p => zBB (zAj fuel) v1 depth2 p.1 p.2.1 p.2.2 = some o34) (fun p => p.1) (fuel, 1000, 0) l35 (zBO (by simp)) ?_
   rintro ⟨k36, a32, i33⟩ l35
   try dsimp only at l35 ⊢
   cases k36 with
   | zero =>
    rw [zBB] at l35; cases l35
   | succ k37 =>
    rw [zBB] at l35
    refine zAF <| cut 54 2 [(1, .int .i64 depth2), (2, .mptr 0 0), (3, .mptr 1 0), (4, .mptr 2 0), (6, .int .i64 i33), (42, .bool ((ltI ((i33 : Nat) : Int) (v1.L.length : Int)) && (leI a32 400)))] [[.int .i64 a32], [.fn (.func 22) [] [.mptr 0 0, .mptr 1 0]], (zHl.d v1)] ?_ ?_
    ·rcases tf (ltI ((i33 : Nat) : Int) (v1.L.length : Int)) with g38 | g38
     ·have c39 := ltT g38
      refine zCg 2 4 rfl rfl rfl fun f40 => ?_
      rw [List.length_map] at f40
      refine st ?_
      simp [g38]
     have c41 := ltF g38
     refine zCg 2 4 rfl rfl rfl fun f42 => ?_
     rw [List.length_map] at f42
     refine st ?_
     simp [g38]
    rcases sp l35 with ⟨g43, l35⟩ | ⟨g43, l35⟩
    ·obtain ⟨g44, g45⟩ := andT g43
     have c46 := ltT g44
     have c48 := leT g45
     refine zGU rfl g43 <| zCg 2 4 rfl rfl rfl fun f47 => ?_
     rw [List.length_map] at f47
     refine zAG <| zAd <| zAF <| zAL ?_
     obtain ⟨x49, q50, l35⟩ := bs l35
     obtain ⟨n51, q52, l35⟩ := bs l35
     obtain ⟨q53, q54⟩ := zFI q52
     try simp at q53
     try simp at q54
     have c55 := q53; simp only [Rng, inR] at c55
     obtain ⟨v56, q57, l35⟩ := bs l35
     refine last 54 2 [(1, .int .i64 depth2), (2, .mptr 0 0), (3, .mptr 1 0), (4, .mptr 2 0), (6, .int .i64 i33)] [[.int .i64 v56], [.fn (.func 22) [] [.mptr 0 0, .mptr 1 0]], (zHl.d v1)] ?_ fun zz hs => ?_
     ·refine zA4 [] [8] mixed (n := 54) rfl (by decide) (by decide) ?_
      simp [q50, q53, q54]
      have r59 := (zEZ x49 n51 a32 v56 q57).frame [0, 1] [[.int .i64 a32], [.fn (.func 22) [] [.mptr 0 0, .mptr 1 0]], [.int .i64 v1.Op, .int .i64 v1.N, .str v1.S, .sl (v1.Names.map cS), .sl (v1.L.map zHl.c)]] (by simp)
      try simp [q50, q53, q54] at r59
      refine callX r59 (by simp [q50, q53, q54]) rfl ?_
      simp [q50, q53, q54]
     refine zEo <| zCL ?_ hs
     have q58 : Rng .i64 (((i33 : Nat) : Int) + 1) := by simp only [Rng, inR]; omega
     try simp at q58
     refine last 54 2 [(1, .int .i64 depth2), (2, .mptr 0 0), (3, .mptr 1 0), (4, .mptr 2 0), (6, .int .i64 ((i33 + 1 : Nat) : Int))] [[.int .i64 v56], [.fn (.func 22) [] [.mptr 0 0, .mptr 1 0]], (zHl.d v1)] (st (by simp [q58])) fun zz hs => ?_
     exact ⟨(k37, v56, i33 + 1), hs, l35, by simp⟩
    refine zGV rfl g43 <| zBA <| zAX ?_
    have q60 := Option.some.inj l35
    have q60 := q60.symm
    refine zAX <| zBC ?_
    obtain rfl := oi h
    simp [q60]
  refine zAG <| zAd <| cutA 54 2 [(1, .int .i64 depth2), (2, .mptr 0 0), (3, .mptr 1 0), (4, .mptr 2 0), (6, .int .i64 0)] [[.int .i64 n4], [.fn (.func 22) [] [.mptr 0 0, .mptr 1 0]], (zHl.d v1)] <| zAL ?_
  obtain ⟨o63, l64, h⟩ := bs h
  refine zBq (fun p : Nat × Int × Nat => mkS 54 2 [(1, .int .i64 depth2), (2, .mptr 0 0), (3, .mptr 1 0), (4, .mptr 2 0), (6, .int .i64 p.2.2)] [[.int .i64 p.2.1], [.fn (.func 22) [] [.mptr 0 0, .mptr 1 0]], (zHl.d v1)]) (fun p => zAs (zAj fuel) v1 depth2 p.1 p.2.1 p.2.2 = some o63) (fun p => p.1) (fuel, n4, 0) l64 (zBO (by simp)) ?_
  rintro ⟨k65, a61, i62⟩ l64
  try dsimp only at l64 ⊢
  cases k65 with
  | zero =>
   rw [zAs] at l64; cases l64
  | succ k66 =>
   rw [zAs] at l64
   refine zAF <| cut 54 2 [(1, .int .i64 depth2), (2, .mptr 0 0), (3, .mptr 1 0), (4, .mptr 2 0), (6, .int .i64 i62), (42, .bool ((ltI ((i62 : Nat) : Int) (v1.L.length : Int)) && (leI a61 400)))] [[.int .i64 a61], [.fn (.func 22) [] [.mptr 0 0, .mptr 1 0]], (zHl.d v1)] ?_ ?_
   ·rcases tf (ltI ((i62 : Nat) : Int) (v1.L.length : Int)) with g67 | g67
    ·have c68 := ltT g67
     refine zCg 2 4 rfl rfl rfl fun f69 => ?_
     rw [List.length_map] at f69
     refine st ?_
     simp [g67]
    have c70 := ltF g67
    refine zCg 2 4 rfl rfl rfl fun f71 => ?_
    rw [List.length_map] at f71
    refine st ?_
    simp [g67]
   rcases sp l64 with ⟨g72, l64⟩ | ⟨g72, l64⟩
   ·obtain ⟨g73, g74⟩ := andT g72
    have c75 := ltT g73
    have c77 := leT g74
    refine zGU rfl g72 <| zCg 2 4 rfl rfl rfl fun f76 => ?_
    rw [List.length_map] at f76
    refine zAG <| zAd <| zAF <| zAL ?_
    obtain ⟨x78, q79, l64⟩ := bs l64
    obtain ⟨n80, q81, l64⟩ := bs l64
    obtain ⟨q82, q83⟩ := zFI q81
    try simp at q82
    try simp at q83
    have c84 := q82; simp only [Rng, inR] at c84
    obtain ⟨v85, q86, l64⟩ := bs l64
    refine last 54 2 [(1, .int .i64 depth2), (2, .mptr 0 0), (3, .mptr 1 0), (4, .mptr 2 0), (6, .int .i64 i62)] [[.int .i64 v85], [.fn (.func 22) [] [.mptr 0 0, .mptr 1 0]], (zHl.d v1)] ?_ fun zz hs => ?_
    ·refine zA4 [] [8] mixed (n := 54) rfl (by decide) (by decide) ?_
     simp [q79, q82, q83]
     have r88 := (zEZ x78 n80 a61 v85 q86).frame [0, 1] [[.int .i64 a61], [.fn (.func 22) [] [.mptr 0 0, .mptr 1 0]], [.int .i64 v1.Op, .int .i64 v1.N, .str v1.S, .sl (v1.Names.map cS), .sl (v1.L.map zHl.c)]] (by simp)
     try simp [q79, q82, q83] at r88
     refine callX r88 (by simp [q79, q82, q83]) rfl ?_
     simp [q79, q82, q83]
    refine zEo <| zCL ?_ hs
    have q87 : Rng .i64 (((i62 : Nat) : Int) + 1) := by simp only [Rng, inR]; omega
    try simp at q87
    refine last 54 2 [(1, .int .i64 depth2), (2, .mptr 0 0), (3, .mptr 1 0), (4, .mptr 2 0), (6, .int .i64 ((i62 + 1 : Nat) : Int))] [[.int .i64 v85], [.fn (.func 22) [] [.mptr 0 0, .mptr 1 0]], (zHl.d v1)] (st (by simp [q87])) fun zz hs => ?_
    exact ⟨(k66, v85, i62 + 1), hs, l64, by simp⟩
   refine zGV rfl g72 <| zBA <| zAX ?_
   have q89 := Option.some.inj l64
   have q89 := q89.symm
   refine zAX <| zBC ?_
   obtain rfl := oi h
   simp [q89]
theorem law20_huge_ok (fuel : Nat) (v1 : zHl) (r : Bool) (h : zDC fuel v1 = some r) : Pure Tryz.prog 7 [.agg [.int .i64 v1.Op, .int .i64 v1.N, .str v1.S, .sl (v1.Names.map cS), .sl (v1.L.map zHl.c)]] (.bool r) := by
 rw [zDC] at h
 refine zAC Tryz.func7 (by rfl) (by rfl) (by simp) (by simp) (by simp) <| cutA 11 0 [(1, .mptr 0 0)] [(zHl.d v1)] <| cutA 11 0 [(1, .mptr 0 0), (3, .mptr 1 0)] [(zHl.d v1), [.int .i64 0]] <| cutA 11 0 [(1, .mptr 0 0), (3, .mptr 1 0), (4, .mptr 2 0)] [(zHl.d v1), [.int .i64 0], [.nilfn]] <| cutA 11 0 [(1, .mptr 0 0), (3, .mptr 1 0), (4, .mptr 2 0)] [(zHl.d v1), [.int .i64 0], [.fn (.func 22) [] [.mptr 1 0, .mptr 2 0]]] ?_
 obtain ⟨v2, q3, h⟩ := bs h
 refine cut 11 0 [(3, .mptr 1 0)] [(zHl.d v1), [.int .i64 v2], [.fn (.func 22) [] [.mptr 1 0, .mptr 2 0]]] ?_ ?_
 ·refine st ?_
  simp
  have r4 := (zGj fuel v1 1 0 v2 q3).frame [1, 2] [[.int .i64 v1.Op, .int .i64 v1.N, .str v1.S, .sl (v1.Names.map cS), .sl (v1.L.map zHl.c)], [.int .i64 0], [.fn (.func 22) [] [.mptr 1 0, .mptr 2 0]]] (by simp)
  try simp at r4
  refine zA3 r4 (by simp) rfl ?_
  simp
 refine cutA 11 0 [(2, .bool (ltI 400 v2))] [(zHl.d v1), [.int .i64 v2], [.fn (.func 22) [] [.mptr 1 0, .mptr 2 0]]] <| zAB ?_
 obtain rfl := oi h
 simp
theorem zFG (c1 : UInt8) (r : Int) (h : zCV c1 = some r) : Pure Tryz.prog 106 [.int .u8 c1.toNat] (.int .i64 r) := by
 rw [zCV] at h
 refine zAC Tryz.func106 (by rfl) (by rfl) (by simp) (by simp) (by simp) <| cutA 30 0 [(0, .int .u8 c1.toNat)] [] <| zAF <| zAL <| cut 30 0 [(0, .int .u8 c1.toNat), (3, .bool ((leI 97 (c1.toNat : Int)) && (leI (c1.toNat : Int) 122)))] [] ?_ ?_
 ·rcases tf (leI 97 (c1.toNat : Int)) with g2 | g2
  ·have c3 := leT g2
   refine st ?_
   simp [g2]
  have c4 := leF g2
  refine st ?_
  simp [g2]
 rcases sp h with ⟨g5, h⟩ | ⟨g5, h⟩
 ·obtain ⟨g6, g7⟩ := andT g5
  have c8 := leT g6
  have c9 := leT g7
  refine zGU rfl g5 <| cutA 30 0 [(2, .int .i64 1)] [] <| zAB <| zAY <| zAH ?_
  obtain rfl := oi h
  simp
 refine zGV rfl g5 <| cut 30 0 [(0, .int .u8 c1.toNat), (10, .bool ((leI 65 (c1.toNat : Int)) && (leI (c1.toNat : Int) 90)))] [] ?_ ?_
 ·rcases tf (leI 65 (c1.toNat : Int)) with g10 | g10
  ·have c11 := leT g10
   refine st ?_
   simp [g10]
  have c12 := leF g10
  refine st ?_
  simp [g10]
 rcases sp h with ⟨g13, h⟩ | ⟨g13, h⟩
 ·obtain ⟨g14, g15⟩ := andT g13
  have c16 := leT g14
  have c17 := leT g15
  refine zGU rfl g13 <| cutA 30 0 [(2, .int .i64 2)] [] <| zAB <| zAY <| zAH ?_
  obtain rfl := oi h
  simp
 refine zGV rfl g13 <| cut 30 0 [(0, .int .u8 c1.toNat), (17, .bool ((leI 48 (c1.toNat : Int)) && (leI (c1.toNat : Int) 57)))] [] ?_ ?_
 ·rcases tf (leI 48 (c1.toNat : Int)) with g18 | g18
  ·have c19 := leT g18
   refine st ?_
   simp [g18]
  have c20 := leF g18
  refine st ?_
  simp [g18]
 rcases sp h with ⟨g21, h⟩ | ⟨g21, h⟩
 ·obtain ⟨g22, g23⟩ := andT g21
  have c24 := leT g22
  have c25 := leT g23
  refine zGU rfl g21 <| cutA 30 0 [(2, .int .i64 3)] [] <| zAB <| zAY <| zAH ?_
  obtain rfl := oi h
  simp
 refine zGV rfl g21 <| cutA 30 0 [(0, .int .u8 c1.toNat), (24, .bool (eqI (c1.toNat : Int) 95))] [] <| spc h rfl (fun g26 h => ?_) fun g26 h => ?_
 ·have c27 := eqT g26
  refine cutA 30 0 [(2, .int .i64 4)] [] <| zAB <| zAY <| zAH ?_
  obtain rfl := oi h
  simp
 have c28 := eqF g26
 refine cutA 30 0 [(27, .bool (eqI (c1.toNat : Int) 46))] [] <| spc h rfl (fun g29 h => ?_) fun g29 h => ?_
 ·have c30 := eqT g29
  refine cutA 30 0 [(2, .int .i64 5)] [] <| zAB <| zAY <| zAH ?_
  obtain rfl := oi h
  simp
 have c31 := eqF g29
 refine zAG <| zEo <| zAd <| cutA 30 0 [(2, .int .i64 0)] [] <| zAB ?_
 obtain rfl := oi h
 simp
theorem zD8 (fuel : Nat) (s1 : (List UInt8)) (first2 : Int) (r : Bool) (h : zBx fuel s1 first2 = some r) : Pure Tryz.prog 143 [.str s1, .int .i64 first2] (.bool r) := by
 rw [zBx] at h
 refine zAC Tryz.func143 (by rfl) (by rfl) (by simp) (by simp) (by simp) <| cutA 38 0 [(0, .str s1), (1, .int .i64 first2)] [] <| zAF ?_
 obtain ⟨b13, q14, h⟩ := bs h
 refine cut 38 0 [(0, .str s1), (21, .bool b13)] [] ?_ ?_
 ·rcases sp q14 with ⟨g3, q14⟩ | ⟨g3, q14⟩
  ·obtain rfl := oi q14
   refine st ?_
   simp [g3]
  rcases sp q14 with ⟨g4, q14⟩ | ⟨g4, q14⟩
  ·have c5 := ltT g4
   refine factS 0 rfl fun f6 => ?_
   obtain rfl := oi q14
   refine st ?_
   simp [g3, g4]
  have c7 := ltF g4
  refine factS 0 rfl fun f8 => ?_
  obtain ⟨c9, q10, q14⟩ := bs q14
  obtain ⟨v11, q12, q14⟩ := bs q14
  obtain rfl := oi q14
  refine st ?_
  simp [g3, g4, q10]
  have r46 := zFG c9 v11 q12
  try simp [g3, g4, q10] at r46
  refine zAD r46 (by simp) rfl ?_
  simp [g3, g4, q10]
 refine spc h rfl (fun g15 h => ?_) fun g15 h => ?_
 ·refine cutA 38 0 [(4, .bool false)] [] <| zAB <| zAH ?_
  obtain rfl := oi h
  simp
 refine zAG <| zAd <| zAF ?_
 obtain ⟨l16, q17, h⟩ := bs h
 obtain ⟨q18, q19⟩ := bytesC_ok q17
 refine cut 38 0 [(23, .sl (l16.map cU)), (24, .int .i64 l16.length), (25, .int .i64 0)] [] (st (by simp [q18, q19])) <| zAL ?_
 obtain ⟨o22, l23, h⟩ := bs h
 refine zBq (fun p : Nat × Nat => mkS 38 0 [(23, .sl (l16.map cU)), (24, .int .i64 l16.length), (25, .int .i64 p.2)] []) (fun p => zBI l16 p.1 p.2 = some o22) (fun p => p.1) (fuel, 0) l23 (zBO (by simp)) ?_
 rintro ⟨k24, i20⟩ l23
 try dsimp only at l23 ⊢
 cases k24 with
 | zero =>
  rw [zBI] at l23; cases l23
 | succ k25 =>
  rw [zBI] at l23
  refine cutA 38 0 [(23, .sl (l16.map cU)), (24, .int .i64 l16.length), (25, .int .i64 i20), (26, .bool (ltI ((i20 : Nat) : Int) (l16.length : Int)))] [] <| zAF <| spc l23 rfl (fun g26 l23 => ?_) fun g26 l23 => ?_
  ·have c27 := ltT g26
   refine zER 23 rfl fun f28 => ?_
   rw [List.length_map] at f28
   refine zAG <| zAd <| zAF <| zAL ?_
   obtain ⟨x29, q30, l23⟩ := bs l23
   refine cut 38 0 [(6, .int .u8 x29.toNat), (23, .sl (l16.map cU)), (24, .int .i64 l16.length), (25, .int .i64 i20)] [] (st (by simp [q30])) ?_
   obtain ⟨v31, q32, l23⟩ := bs l23
   refine cut 38 0 [(7, .int .i64 v31), (23, .sl (l16.map cU)), (24, .int .i64 l16.length), (25, .int .i64 i20)] [] ?_ ?_
   ·refine st ?_
    simp
    have r42 := zFG x29 v31 q32
    try simp at r42
    refine zAD r42 (by simp) rfl ?_
    simp
   refine cut 38 0 [(23, .sl (l16.map cU)), (24, .int .i64 l16.length), (25, .int .i64 i20), (36, .bool ((eqI v31 0) || (eqI v31 5)))] [] ?_ ?_
   ·rcases tf (eqI v31 0) with g33 | g33
    ·have c34 := eqT g33
     refine st ?_
     simp [g33]
    have c35 := eqF g33
    refine st ?_
    simp [g33]
   rcases sp l23 with ⟨g36, l23⟩ | ⟨g36, l23⟩
   ·refine zGU rfl g36 <| cutA 38 0 [(4, .bool false)] [] <| zAB <| zAY <| zAH ?_
    replace h := retL l23 h
    refine zAH <| zAY <| zAH ?_
    obtain rfl := oi h
    simp
   obtain ⟨g37, g38⟩ := orF g36
   have c39 := eqF g37
   have c40 := eqF g38
   refine zGV rfl g36 <| zAG <| zEo <| zAd ?_
   have q41 : Rng .i64 (((i20 : Nat) : Int) + 1) := by simp only [Rng, inR]; omega
   try simp at q41
   refine last 38 0 [(23, .sl (l16.map cU)), (24, .int .i64 l16.length), (25, .int .i64 ((i20 + 1 : Nat) : Int))] [] (st (by simp [q41])) fun zz hs => ?_
   exact ⟨(k25, i20 + 1), hs, l23, by simp⟩
  have c43 := ltF g26
  refine zER 23 rfl fun f44 => ?_
  rw [List.length_map] at f44
  refine zBA <| zAX ?_
  rcases o22 with o22 | o21
  ·cases l23
  have q45 := Sum.inr.inj (Option.some.inj l23)
  replace h := elimR h
  refine zAX <| zBC <| zCL (t := mkS 38 0 [] []) ?_ (zBO (by simp))
  refine cutA 38 0 [(4, .bool true)] [] <| zAB ?_
  obtain rfl := oi h
  simp
theorem zDr (fuel : Nat) (s1 : (List (List UInt8))) (v2 : (List UInt8)) (r : Int) (h : zBW fuel s1 v2 = some r) : Pure Tryz.prog 189 [.sl (s1.map cS), .str v2] (.int .i64 r) := by
 rw [zBW] at h
 refine zAC Tryz.func189 (by rfl) (by rfl) (by simp) (by simp) (by simp) <| cutA 19 0 [(0, .sl (s1.map cS)), (1, .str v2)] [] <| zAF <| cutA 19 0 [(0, .sl (s1.map cS)), (1, .str v2), (7, .int .i64 s1.length), (8, .int .i64 0)] [] <| zAL ?_
 obtain ⟨o5, l6, h⟩ := bs h
 refine zBq (fun p : Nat × Nat => mkS 19 0 [(0, .sl (s1.map cS)), (1, .str v2), (7, .int .i64 s1.length), (8, .int .i64 p.2)] []) (fun p => zAa s1 v2 p.1 p.2 = some o5) (fun p => p.1) (fuel, 0) l6 (zBO (by simp)) ?_
 rintro ⟨k7, i3⟩ l6
 try dsimp only at l6 ⊢
 cases k7 with
 | zero =>
  rw [zAa] at l6; cases l6
 | succ k8 =>
  rw [zAa] at l6
  refine cutA 19 0 [(0, .sl (s1.map cS)), (1, .str v2), (7, .int .i64 s1.length), (8, .int .i64 i3), (9, .bool (ltI ((i3 : Nat) : Int) (s1.length : Int)))] [] <| zAF <| spc l6 rfl (fun g9 l6 => ?_) fun g9 l6 => ?_
  ·have c10 := ltT g9
   refine zER 0 rfl fun f11 => ?_
   rw [List.length_map] at f11
   refine zAG <| zAd <| zAF <| zAL <| cutA 19 0 [(0, .sl (s1.map cS)), (1, .str v2), (5, .int .i64 i3), (7, .int .i64 s1.length), (8, .int .i64 i3)] [] ?_
   obtain ⟨x12, q13, l6⟩ := bs l6
   refine cut 19 0 [(0, .sl (s1.map cS)), (1, .str v2), (5, .int .i64 i3), (7, .int .i64 s1.length), (8, .int .i64 i3), (16, .bool (eqS v2 x12))] [] (st (by simp [q13])) <| spc l6 rfl (fun g14 l6 => ?_) fun g14 l6 => ?_
   ·refine cutA 19 0 [(4, .int .i64 i3)] [] <| zAB <| zAY <| zAH ?_
    replace h := retL l6 h
    refine zAH <| zAY <| zAH ?_
    obtain rfl := oi h
    simp
   refine zAG <| zEo <| zAd ?_
   have q15 : Rng .i64 (((i3 : Nat) : Int) + 1) := by simp only [Rng, inR]; omega
   try simp at q15
   refine last 19 0 [(0, .sl (s1.map cS)), (1, .str v2), (7, .int .i64 s1.length), (8, .int .i64 ((i3 + 1 : Nat) : Int))] [] (st (by simp [q15])) fun zz hs => ?_
   exact ⟨(k8, i3 + 1), hs, l6, by simp⟩
  have c16 := ltF g9
  refine zER 0 rfl fun f17 => ?_
  rw [List.length_map] at f17
  refine zBA <| zAX ?_
  rcases o5 with o5 | o4
  ·cases l6
  have q18 := Sum.inr.inj (Option.some.inj l6)
  replace h := elimR h
  refine zAX <| zBC <| zCL (t := mkS 19 0 [] []) ?_ (zBO (by simp))
  refine cutA 19 0 [(4, .int .i64 (-1))] [] <| zAB ?_
  obtain rfl := oi h
  simp
theorem zDN (fuel : Nat) (s1 : (List (List UInt8))) (v2 : (List UInt8)) (r : Bool) (h : zAo fuel s1 v2 = some r) : Pure Tryz.prog 172 [.sl (s1.map cS), .str v2] (.bool r) := by
 rw [zAo] at h
 refine zAC Tryz.func172 (by rfl) (by rfl) (by simp) (by simp) (by simp) <| cutA 9 0 [(0, .sl (s1.map cS)), (1, .str v2)] [] ?_
 obtain ⟨v3, q4, h⟩ := bs h
 refine cut 9 0 [(4, .bool (leI 0 v3))] [] ?_ ?_
 ·refine st ?_
  simp
  have r5 := zDr fuel s1 v2 v3 q4
  try simp at r5
  refine zAD r5 (by simp) rfl ?_
  simp
 refine zAB ?_
 obtain rfl := oi h
 simp
theorem ident_word_ok (fuel : Nat) (s1 : (List UInt8)) (r : Bool) (h : zDD fuel s1 = some r) : Pure Tryz.prog 144 [.str s1] (.bool r) := by
 rw [zDD] at h
 refine zAC Tryz.func144 (by rfl) (by rfl) (by simp) (by simp) (by simp) <| cutA 6 0 [(0, .str s1)] [] ?_
 obtain ⟨v2, q3, h⟩ := bs h
 obtain ⟨v4, q5, h⟩ := bs h
 refine cut 6 0 [(2, .bool v4)] [] ?_ ?_
 ·refine st ?_
  simp
  have r6 := zDn [97, 110, 100, 97, 108, 115, 111, 32, 99, 97, 115, 101, 32, 100, 97, 116, 97, 32, 100, 105, 118, 32, 101, 108, 115, 101, 32, 101, 110, 100, 32, 102, 110, 32, 102, 117, 110, 32, 102, 117, 110, 99, 116, 111, 114, 32, 103, 101, 110, 101, 114, 97, 116, 105, 118, 101, 32, 105, 102, 32, 105, 109, 112, 111, 114, 116, 32, 105, 110, 32, 105, 110, 99, 108, 117, 100, 101, 32, 108, 101, 116, 32, 109, 111, 100, 32, 109, 111, 100, 117, 108, 101, 32, 111, 102, 32, 111, 112, 101, 110, 32, 111, 114, 101, 108, 115, 101, 32, 112, 97, 99, 107, 32, 115, 104, 97, 114, 105, 110, 103, 32, 115, 105, 103, 32, 115, 105, 103, 110, 97, 116, 117, 114, 101, 32, 115, 116, 114, 117, 99, 116, 32, 115, 116, 114, 117, 99, 116, 117, 114, 101, 32, 116, 104, 101, 110, 32, 116, 121, 112, 101, 32, 117, 110, 112, 97, 99, 107, 32, 118, 97, 108, 32, 119, 105, 116, 104] v2 q3
  try simp at r6
  refine zAD r6 (by simp) rfl ?_
  simp
  have r7 := zDN fuel v2 s1 v4 q5
  try simp at r7
  refine zAD r7 (by simp) rfl ?_
  simp
 refine zAB ?_
 obtain rfl := oi h
 simp
theorem zGO (fuel : Nat) (s1 : (List UInt8)) (r : Bool) (h : zCA fuel s1 = some r) : Pure Tryz.prog 115 [.str s1] (.bool r) := by
 rw [zCA] at h
 refine zAC Tryz.func115 (by rfl) (by rfl) (by simp) (by simp) (by simp) <| cutA 10 0 [(0, .str s1)] [] ?_
 obtain ⟨b7, q8, h⟩ := bs h
 refine cut 10 0 [(2, .bool b7)] [] ?_ ?_
 ·obtain ⟨v2, q3, q8⟩ := bs q8
  rcases sp q8 with ⟨g4, q8⟩ | ⟨g4, q8⟩
  ·obtain ⟨v5, q6, q8⟩ := bs q8
   obtain rfl := oi q8
   refine st ?_
   simp [g4]
   have r9 := zD8 fuel s1 1 v2 q3
   try simp [g4] at r9
   refine zAD r9 (by simp) rfl ?_
   simp [g4]
   have r10 := ident_word_ok fuel s1 v5 q6
   try simp [g4] at r10
   refine zAD r10 (by simp) rfl ?_
   simp [g4]
  obtain rfl := oi q8
  refine st ?_
  simp [g4]
  have r11 := zD8 fuel s1 1 v2 q3
  try simp [g4] at r11
  refine zAD r11 (by simp) rfl ?_
  simp [g4]
 refine zAB ?_
 obtain rfl := oi h
 simp
theorem zGN (fuel : Nat) (s1 : (List UInt8)) (r : Bool) (h : zB9 fuel s1 = some r) : Pure Tryz.prog 116 [.str s1] (.bool r) := by
 rw [zB9] at h
 refine zAC Tryz.func116 (by rfl) (by rfl) (by simp) (by simp) (by simp) <| cutA 5 0 [(0, .str s1)] [] ?_
 obtain ⟨v2, q3, h⟩ := bs h
 refine cut 5 0 [(2, .bool v2)] [] ?_ ?_
 ·refine st ?_
  simp
  have r4 := zD8 fuel s1 2 v2 q3
  try simp at r4
  refine zAD r4 (by simp) rfl ?_
  simp
 refine zAB ?_
 obtain rfl := oi h
 simp
theorem zGi (fuel : Nat) (p1 : zHm) (r : Bool) (h : zCT fuel p1 = some r) : Pure Tryz.prog 72 [.agg [.int .i64 p1.Op, .int .i64 p1.N, .str p1.S, .sl (p1.L.map zHm.c)]] (.bool r) := by
 rw [zCT] at h
 refine zAC Tryz.func72 (by rfl) (by rfl) (by simp) (by simp) (by simp) <| cutA 88 0 [(1, .mptr 0 0)] [(zHm.d p1)] <| cutA 88 0 [(1, .mptr 0 0), (3, .int .i64 p1.L.length)] [(zHm.d p1)] <| zAF <| cutA 88 0 [(1, .mptr 0 0), (3, .int .i64 p1.L.length), (8, .int .i64 p1.Op)] [(zHm.d p1)] <| zAL <| cutA 88 0 [(1, .mptr 0 0), (3, .int .i64 p1.L.length), (8, .int .i64 p1.Op), (9, .bool (eqI p1.Op 1))] [(zHm.d p1)] ?_
 refine spc h rfl (fun g2 h => ?_) fun g2 h => ?_
 ·refine cut 88 0 [(2, .bool ((eqI (p1.L.length : Int) 0) && ((eqI p1.N 0) && (eqS p1.S ([] : List UInt8)))))] [(zHm.d p1)] ?_ ?_
  ·rcases tf (eqI (p1.L.length : Int) 0) with g4 | g4
   ·have c5 := eqT g4
    rcases tf (eqI p1.N 0) with g6 | g6
    ·have c7 := eqT g6
     refine st ?_
     simp [g4, g6]
    have c8 := eqF g6
    refine st ?_
    simp [g4, g6]
   have c9 := eqF g4
   refine st ?_
   simp [g4]
  refine zAB <| zAY <| zAH ?_
  obtain rfl := oi h
  simp
 refine cutA 88 0 [(1, .mptr 0 0), (3, .int .i64 p1.L.length), (8, .int .i64 p1.Op), (23, .bool (eqI p1.Op 2))] [(zHm.d p1)] <| spc h rfl (fun g11 h => ?_) fun g11 h => ?_
 ·obtain ⟨b21, q22, h⟩ := bs h
  refine cut 88 0 [(2, .bool b21)] [(zHm.d p1)] ?_ ?_
  ·rcases sp q22 with ⟨g13, q22⟩ | ⟨g13, q22⟩
   ·have c14 := eqT g13
    rcases sp q22 with ⟨g15, q22⟩ | ⟨g15, q22⟩
    ·have c16 := eqT g15
     obtain ⟨v17, q18, q22⟩ := bs q22
     obtain rfl := oi q22
     refine st ?_
     simp [g13, g15]
     have r23 := zGO fuel p1.S v17 q18
     try simp [g13, g15] at r23
     refine zAD r23 (by simp) rfl ?_
     simp [g13, g15]
    have c19 := eqF g15
    obtain rfl := oi q22
    refine st ?_
    simp [g13, g15]
   have c20 := eqF g13
   obtain rfl := oi q22
   refine st ?_
   simp [g13]
  refine zAB <| zAY <| zAH ?_
  obtain rfl := oi h
  simp
 refine cutA 88 0 [(1, .mptr 0 0), (3, .int .i64 p1.L.length), (8, .int .i64 p1.Op), (37, .bool (eqI p1.Op 3))] [(zHm.d p1)] <| spc h rfl (fun g25 h => ?_) fun g25 h => ?_
 ·refine cut 88 0 [(2, .bool ((eqI (p1.L.length : Int) 0) && ((eqS p1.S ([] : List UInt8)) && ((leI (-4503599627370496) p1.N) && (leI p1.N 4503599627370496)))))] [(zHm.d p1)] ?_ ?_
  ·rcases tf (eqI (p1.L.length : Int) 0) with g27 | g27
   ·have c28 := eqT g27
    rcases tf (eqS p1.S ([] : List UInt8)) with g29 | g29
    ·rcases tf (leI (-4503599627370496) p1.N) with g30 | g30
     ·have c31 := leT g30
      refine st ?_
      simp [g27, g29, g30]
     have c32 := leF g30
     refine st ?_
     simp [g27, g29, g30]
    refine st ?_
    simp [g27, g29]
   have c33 := eqF g27
   refine st ?_
   simp [g27]
  refine zAB <| zAY <| zAH ?_
  obtain rfl := oi h
  simp
 refine cutA 88 0 [(1, .mptr 0 0), (3, .int .i64 p1.L.length), (8, .int .i64 p1.Op), (56, .bool (eqI p1.Op 4))] [(zHm.d p1)] <| spc h rfl (fun g35 h => ?_) fun g35 h => ?_
 ·obtain ⟨b47, q48, h⟩ := bs h
  refine cut 88 0 [(2, .bool b47)] [(zHm.d p1)] ?_ ?_
  ·rcases sp q48 with ⟨g37, q48⟩ | ⟨g37, q48⟩
   ·have c38 := leT g37
    refine zCg 0 3 rfl rfl rfl fun f39 => ?_
    rw [List.length_map] at f39
    rcases sp q48 with ⟨g40, q48⟩ | ⟨g40, q48⟩
    ·have c41 := eqT g40
     obtain ⟨v42, q43, q48⟩ := bs q48
     obtain rfl := oi q48
     refine st ?_
     simp [g37, g40]
     have r49 := zGN fuel p1.S v42 q43
     try simp [g37, g40] at r49
     refine zAD r49 (by simp) rfl ?_
     simp [g37, g40]
    have c44 := eqF g40
    obtain rfl := oi q48
    refine st ?_
    simp [g37, g40]
   have c45 := leF g37
   refine zCg 0 3 rfl rfl rfl fun f46 => ?_
   rw [List.length_map] at f46
   obtain rfl := oi q48
   refine st ?_
   simp [g37]
  refine zAB <| zAY <| zAH ?_
  obtain rfl := oi h
  simp
 refine cutA 88 0 [(1, .mptr 0 0), (3, .int .i64 p1.L.length), (70, .bool (eqI p1.Op 5))] [(zHm.d p1)] <| spc h rfl (fun g51 h => ?_) fun g51 h => ?_
 ·refine cut 88 0 [(2, .bool ((!(eqI (p1.L.length : Int) 1)) && ((leI (p1.L.length : Int) 9) && ((eqI p1.N 0) && (eqS p1.S ([] : List UInt8))))))] [(zHm.d p1)] ?_ ?_
  ·rcases tf (!(eqI (p1.L.length : Int) 1)) with g53 | g53
   ·have g54 := notT g53
    have c55 := eqF g54
    rcases tf (leI (p1.L.length : Int) 9) with g56 | g56
    ·have c57 := leT g56
     refine zCg 0 3 rfl rfl rfl fun f58 => ?_
     rw [List.length_map] at f58
     rcases tf (eqI p1.N 0) with g59 | g59
     ·have c60 := eqT g59
      refine st ?_
      simp [g53, g56, g59]
     have c61 := eqF g59
     refine st ?_
     simp [g53, g56, g59]
    have c62 := leF g56
    refine zCg 0 3 rfl rfl rfl fun f63 => ?_
    rw [List.length_map] at f63
    refine st ?_
    simp [g53, g56]
   have g64 := notF g53
   have c65 := eqT g64
   refine st ?_
   simp [g53]
  refine zAB <| zAY <| zAH ?_
  obtain rfl := oi h
  simp
 refine zAG <| zEo <| zAd <| cutA 88 0 [(2, .bool false)] [(zHm.d p1)] <| zAB ?_
 obtain rfl := oi h
 simp
theorem zFC (fuel : Nat) : (∀ (p1 : zHm) (left2 : Int) (depth3 : Int) (r : Int × Bool) (_ : zAm fuel p1 left2 depth3 = some r), Pure Tryz.prog 45 [.agg [.int .i64 p1.Op, .int .i64 p1.N, .str p1.S, .sl (p1.L.map zHm.c)], .int .i64 left2, .int .i64 depth3] (.tup [.int .i64 r.1, .bool r.2])) := by
 induction fuel with
 | zero => intro p1 left2 depth3 r h; rw [zAm] at h; cases h
 | succ fuel zFF =>
  intro p1 left2 depth3 r h
  rw [zAm] at h
  refine zAC Tryz.func45 (by rfl) (by rfl) (by simp) (by simp) (by simp) <| cutA 48 0 [(1, .int .i64 left2), (2, .int .i64 depth3), (3, .mptr 0 0)] [(zHm.d p1)] <| zAF ?_
  obtain ⟨b12, q13, h⟩ := bs h
  refine cut 48 0 [(1, .int .i64 left2), (2, .int .i64 depth3), (3, .mptr 0 0), (23, .bool b12)] [(zHm.d p1)] ?_ ?_
  ·rcases sp q13 with ⟨g4, q13⟩ | ⟨g4, q13⟩
   ·have c5 := leT g4
    obtain rfl := oi q13
    refine st ?_
    simp [g4]
   have c6 := leF g4
   rcases sp q13 with ⟨g7, q13⟩ | ⟨g7, q13⟩
   ·have c8 := ltT g7
    obtain rfl := oi q13
    refine st ?_
    simp [g4, g7]
   have c9 := ltF g7
   obtain ⟨v10, q11, q13⟩ := bs q13
   obtain rfl := oi q13
   refine st ?_
   simp [g4, g7]
   have r52 := zGi fuel p1 v10 q11
   try simp [g4, g7] at r52
   refine zAD r52 (by simp) rfl ?_
   simp [g4, g7]
  refine spc h rfl (fun g14 h => ?_) fun g14 h => ?_
  ·refine cutA 48 0 [(6, .int .i64 0), (7, .bool false)] [(zHm.d p1)] <| zAB <| zAH ?_
   obtain rfl := oi h
   simp
  refine zAG <| zAd <| cutA 48 0 [(1, .int .i64 left2), (2, .int .i64 depth3), (3, .mptr 0 0), (8, .int .i64 1)] [(zHm.d p1)] <| zAF <| cutA 48 0 [(1, .int .i64 left2), (2, .int .i64 depth3), (8, .int .i64 1), (25, .sl (p1.L.map zHm.c)), (26, .int .i64 p1.L.length), (27, .int .i64 0)] [(zHm.d p1)] <| zAL ?_
  obtain ⟨o18, l19, h⟩ := bs h
  refine zBq (fun p : Nat × Int × Nat => mkS 48 0 [(1, .int .i64 left2), (2, .int .i64 depth3), (8, .int .i64 p.2.1), (25, .sl (p1.L.map zHm.c)), (26, .int .i64 p1.L.length), (27, .int .i64 p.2.2)] [(zHm.d p1)]) (fun p => zAk (zAm fuel) p1 left2 depth3 p.1 p.2.1 p.2.2 = some o18) (fun p => p.1) (fuel, 1, 0) l19 (zBO (by simp)) ?_
  rintro ⟨k20, n15, i16⟩ l19
  try dsimp only at l19 ⊢
  cases k20 with
  | zero =>
   rw [zAk] at l19; cases l19
  | succ k21 =>
   rw [zAk] at l19
   refine cutA 48 0 [(1, .int .i64 left2), (2, .int .i64 depth3), (8, .int .i64 n15), (25, .sl (p1.L.map zHm.c)), (26, .int .i64 p1.L.length), (27, .int .i64 i16), (28, .bool (ltI ((i16 : Nat) : Int) (p1.L.length : Int)))] [(zHm.d p1)] <| zAF <| spc l19 rfl (fun g22 l19 => ?_) fun g22 l19 => ?_
   ·have c23 := ltT g22
    refine zER 25 rfl fun f24 => ?_
    rw [List.length_map] at f24
    refine zAG <| zAd <| zAF <| zAL ?_
    obtain ⟨x25, q26, l19⟩ := bs l19
    refine cut 48 0 [(1, .int .i64 left2), (2, .int .i64 depth3), (8, .int .i64 n15), (10, .mptr 1 0), (25, .sl (p1.L.map zHm.c)), (26, .int .i64 p1.L.length), (27, .int .i64 i16)] [(zHm.d p1), (zHm.d x25)] (st (by simp [q26])) ?_
    obtain ⟨n27, q28, l19⟩ := bs l19
    obtain ⟨q29, q30⟩ := zFI q28
    try simp at q29
    try simp at q30
    have c31 := q29; simp only [Rng, inR] at c31
    obtain ⟨n32, q33, l19⟩ := bs l19
    obtain ⟨q34, q35⟩ := zFI q33
    try simp at q34
    try simp at q35
    have c36 := q34; simp only [Rng, inR] at c36
    obtain ⟨v37, q38, l19⟩ := bs l19
    refine cut 48 0 [(1, .int .i64 left2), (2, .int .i64 depth3), (8, .int .i64 n15), (11, .int .i64 v37.1), (12, .bool v37.2), (25, .sl (p1.L.map zHm.c)), (26, .int .i64 p1.L.length), (27, .int .i64 i16)] [(zHm.d p1), (zHm.d x25)] ?_ ?_
    ·refine st ?_
     simp [q29, q30, q34, q35]
     have r48 := zFF x25 n27 n32 v37 q38
     try simp [q29, q30, q34, q35] at r48
     refine zAD r48 (by simp) rfl ?_
     simp [q29, q30, q34, q35]
    refine zAF <| cutA 48 0 [(1, .int .i64 left2), (2, .int .i64 depth3), (8, .int .i64 n15), (11, .int .i64 v37.1), (25, .sl (p1.L.map zHm.c)), (26, .int .i64 p1.L.length), (27, .int .i64 i16), (42, .bool (!v37.2))] [(zHm.d p1), (zHm.d x25)] <| spc l19 rfl (fun g39 l19 => ?_) fun g39 l19 => ?_
    ·have g40 := notT g39
     refine cutA 48 0 [(6, .int .i64 0), (7, .bool false)] [(zHm.d p1), (zHm.d x25)] <| zAB <| zAH <| zAY <| zAH ?_
     replace h := retL l19 h
     refine zAH <| zAY <| zAH ?_
     obtain rfl := oi h
     simp
    have g41 := notF g39
    refine zAG <| zAd ?_
    obtain ⟨n42, q43, l19⟩ := bs l19
    obtain ⟨q44, q45⟩ := zFI q43
    try simp at q44
    try simp at q45
    have c46 := q44; simp only [Rng, inR] at c46
    refine last 48 0 [(1, .int .i64 left2), (2, .int .i64 depth3), (8, .int .i64 n42), (25, .sl (p1.L.map zHm.c)), (26, .int .i64 p1.L.length), (27, .int .i64 i16)] [(zHm.d p1), (zHm.d x25)] (st (by simp [q44, q45])) fun zz hs => ?_
    refine zEo <| zCL ?_ hs
    have q47 : Rng .i64 (((i16 : Nat) : Int) + 1) := by simp only [Rng, inR]; omega
    try simp at q47
    refine last 48 0 [(1, .int .i64 left2), (2, .int .i64 depth3), (8, .int .i64 n42), (25, .sl (p1.L.map zHm.c)), (26, .int .i64 p1.L.length), (27, .int .i64 ((i16 + 1 : Nat) : Int))] [(zHm.d p1)] (st (by simp [q47])) fun zz hs => ?_
    exact ⟨(k21, n42, i16 + 1), hs, l19, by simp⟩
   have c49 := ltF g22
   refine zER 25 rfl fun f50 => ?_
   rw [List.length_map] at f50
   refine zBA <| zAX ?_
   rcases o18 with o18 | o17
   ·cases l19
   have q51 := Sum.inr.inj (Option.some.inj l19)
   replace h := elimR h
   have q51 := q51.symm
   refine zAX <| zBC <| zCL (t := mkS 48 0 [(8, .int .i64 o17)] [(zHm.d p1)]) ?_ (zBO (by simp [q51]))
   refine cutA 48 0 [(6, .int .i64 o17), (7, .bool true)] [(zHm.d p1)] <| zAB ?_
   obtain rfl := oi h
   simp
theorem zFD (name1 : (List UInt8)) (c2 : Bool) (c3 : (List (List UInt8 × Bool))) (r : Bool × (List (List UInt8 × Bool))) (h : zCC name1 c2 c3 = some r) : Raw Tryz.prog 47 [.str name1, .mptr 0 0, .mptr 1 0] [[.bool c2], [.omp (mks c3) (mvs AV.bool c3)]] (.tup []) [[.bool r.1], [.omp (mks r.2) (mvs AV.bool r.2)]] := by
 rw [zCC] at h
 refine zBh Tryz.func47 (by rfl) (by rfl) (by simp) (by simp) <| cut 13 2 [(0, .str name1), (2, .mptr 1 0)] [[.bool (c2 && (!(mgetD c3 name1 false)))], [.omp (mks c3) (mvs AV.bool c3)]] ?_ ?_
 ·rcases tf (c2) with g4 | g4
  ·refine st ?_
   simp [g4]
  refine st ?_
  simp [g4]
 obtain rfl := oi h
 refine st ?_
 simp
theorem zC3 (fuel : Nat) : (∀ (p1 : zHm) (c2 : Bool) (c3 : (List (List UInt8 × Bool))) (r : Bool × (List (List UInt8 × Bool))) (_ : zAE fuel p1 c2 c3 = some r), Raw Tryz.prog 46 [.agg [.int .i64 p1.Op, .int .i64 p1.N, .str p1.S, .sl (p1.L.map zHm.c)], .fn (.func 47) [] [.mptr 0 0, .mptr 1 0]] [[.bool c2], [.omp (mks c3) (mvs AV.bool c3)]] (.tup []) [[.bool r.1], [.omp (mks r.2) (mvs AV.bool r.2)]]) := by
 induction fuel with
 | zero => intro p1 c2 c3 r h; rw [zAE] at h; cases h
 | succ fuel zBu =>
  intro p1 c2 c3 r h
  rw [zAE] at h
  refine zBh Tryz.func46 (by rfl) (by rfl) (by simp) (by simp) <| cutA 24 2 [(1, .fn (.func 47) [] [.mptr 0 0, .mptr 1 0]), (2, .mptr 2 0)] [[.bool c2], [.omp (mks c3) (mvs AV.bool c3)], (zHm.d p1)] <| zAF <| cutA 24 2 [(1, .fn (.func 47) [] [.mptr 0 0, .mptr 1 0]), (2, .mptr 2 0), (8, .bool (eqI p1.Op 2))] [[.bool c2], [.omp (mks c3) (mvs AV.bool c3)], (zHm.d p1)] <| spc h rfl (fun g4 h => ?_) fun g4 h => ?_
  ·obtain ⟨v6, q7, h⟩ := bs h
   refine last 24 2 [(1, .fn (.func 47) [] [.mptr 0 0, .mptr 1 0]), (2, .mptr 2 0)] [[.bool v6.1], [.omp (mks v6.2) (mvs AV.bool v6.2)], (zHm.d p1)] ?_ fun zz hs => ?_
   ·refine st ?_
    simp
    have r29 := (zFD p1.S c2 c3 v6 q7).frame [0, 1] [[.bool c2], [.omp (mks c3) (mvs AV.bool c3)], [.int .i64 p1.Op, .int .i64 p1.N, .str p1.S, .sl (p1.L.map zHm.c)]] (by simp)
    try simp at r29
    refine zA3 r29 (by simp) rfl ?_
    simp
   refine zCL ?_ hs
   refine cutA 24 2 [(1, .fn (.func 47) [] [.mptr 0 0, .mptr 1 0]), (14, .sl (p1.L.map zHm.c)), (15, .int .i64 p1.L.length), (16, .int .i64 0)] [[.bool v6.1], [.omp (mks v6.2) (mvs AV.bool v6.2)], (zHm.d p1)] <| zAL ?_
   obtain ⟨o11, l12, h⟩ := bs h
   refine zBq (fun p : Nat × Bool × (List (List UInt8 × Bool)) × Nat => mkS 24 2 [(1, .fn (.func 47) [] [.mptr 0 0, .mptr 1 0]), (14, .sl (p1.L.map zHm.c)), (15, .int .i64 p1.L.length), (16, .int .i64 p.2.2.2)] [[.bool p.2.1], [.omp (mks p.2.2.1) (mvs AV.bool p.2.2.1)], (zHm.d p1)]) (fun p => zAP (zAE fuel) p1 p.1 p.2.1 p.2.2.1 p.2.2.2 = some o11) (fun p => p.1) (fuel, v6.1, v6.2, 0) l12 (zBO (by simp)) ?_
   rintro ⟨k13, a8, a9, i10⟩ l12
   try dsimp only at l12 ⊢
   cases k13 with
   | zero =>
    rw [zAP] at l12; cases l12
   | succ k14 =>
    rw [zAP] at l12
    refine cutA 24 2 [(1, .fn (.func 47) [] [.mptr 0 0, .mptr 1 0]), (14, .sl (p1.L.map zHm.c)), (15, .int .i64 p1.L.length), (16, .int .i64 i10), (17, .bool (ltI ((i10 : Nat) : Int) (p1.L.length : Int)))] [[.bool a8], [.omp (mks a9) (mvs AV.bool a9)], (zHm.d p1)] <| zAF <| spc l12 rfl (fun g15 l12 => ?_) fun g15 l12 => ?_
    ·have c16 := ltT g15
     refine zER 14 rfl fun f17 => ?_
     rw [List.length_map] at f17
     refine zAG <| zAd <| zAF <| zAL ?_
     obtain ⟨x18, q19, l12⟩ := bs l12
     refine cut 24 2 [(1, .fn (.func 47) [] [.mptr 0 0, .mptr 1 0]), (5, .mptr 3 0), (14, .sl (p1.L.map zHm.c)), (15, .int .i64 p1.L.length), (16, .int .i64 i10)] [[.bool a8], [.omp (mks a9) (mvs AV.bool a9)], (zHm.d p1), (zHm.d x18)] (st (by simp [q19])) ?_
     obtain ⟨v20, q21, l12⟩ := bs l12
     refine last 24 2 [(1, .fn (.func 47) [] [.mptr 0 0, .mptr 1 0]), (14, .sl (p1.L.map zHm.c)), (15, .int .i64 p1.L.length), (16, .int .i64 i10)] [[.bool v20.1], [.omp (mks v20.2) (mvs AV.bool v20.2)], (zHm.d p1), (zHm.d x18)] ?_ fun zz hs => ?_
     ·refine st ?_
      simp
      have r23 := (zBu x18 a8 a9 v20 q21).frame [0, 1] [[.bool a8], [.omp (mks a9) (mvs AV.bool a9)], [.int .i64 p1.Op, .int .i64 p1.N, .str p1.S, .sl (p1.L.map zHm.c)], [.int .i64 x18.Op, .int .i64 x18.N, .str x18.S, .sl (x18.L.map zHm.c)]] (by simp)
      try simp at r23
      refine zA3 r23 (by simp) rfl ?_
      simp
     refine zEo <| zCL ?_ hs
     have q22 : Rng .i64 (((i10 : Nat) : Int) + 1) := by simp only [Rng, inR]; omega
     try simp at q22
     refine last 24 2 [(1, .fn (.func 47) [] [.mptr 0 0, .mptr 1 0]), (14, .sl (p1.L.map zHm.c)), (15, .int .i64 p1.L.length), (16, .int .i64 ((i10 + 1 : Nat) : Int))] [[.bool v20.1], [.omp (mks v20.2) (mvs AV.bool v20.2)], (zHm.d p1)] (st (by simp [q22])) fun zz hs => ?_
     exact ⟨(k14, v20.1, v20.2, i10 + 1), hs, l12, by simp⟩
    have c24 := ltF g15
    refine zER 14 rfl fun f25 => ?_
    rw [List.length_map] at f25
    refine zBA <| zAX ?_
    have q26 := Option.some.inj l12
    have q27 : o11.1 = a8 := by rw [← q26]
    have q28 : o11.2 = a9 := by rw [← q26]
    refine zAX <| zBC ?_
    obtain rfl := oi h
    simp [q27, q28]
  refine zAG <| zAd <| cutA 24 2 [(1, .fn (.func 47) [] [.mptr 0 0, .mptr 1 0]), (14, .sl (p1.L.map zHm.c)), (15, .int .i64 p1.L.length), (16, .int .i64 0)] [[.bool c2], [.omp (mks c3) (mvs AV.bool c3)], (zHm.d p1)] <| zAL ?_
  obtain ⟨o34, l35, h⟩ := bs h
  refine zBq (fun p : Nat × Bool × (List (List UInt8 × Bool)) × Nat => mkS 24 2 [(1, .fn (.func 47) [] [.mptr 0 0, .mptr 1 0]), (14, .sl (p1.L.map zHm.c)), (15, .int .i64 p1.L.length), (16, .int .i64 p.2.2.2)] [[.bool p.2.1], [.omp (mks p.2.2.1) (mvs AV.bool p.2.2.1)], (zHm.d p1)]) (fun p => zAR (zAE fuel) p1 p.1 p.2.1 p.2.2.1 p.2.2.2 = some o34) (fun p => p.1) (fuel, c2, c3, 0) l35 (zBO (by simp)) ?_
  rintro ⟨k36, a31, a32, i33⟩ l35
  try dsimp only at l35 ⊢
  cases k36 with
  | zero =>
   rw [zAR] at l35; cases l35
  | succ k37 =>
   rw [zAR] at l35
   refine cutA 24 2 [(1, .fn (.func 47) [] [.mptr 0 0, .mptr 1 0]), (14, .sl (p1.L.map zHm.c)), (15, .int .i64 p1.L.length), (16, .int .i64 i33), (17, .bool (ltI ((i33 : Nat) : Int) (p1.L.length : Int)))] [[.bool a31], [.omp (mks a32) (mvs AV.bool a32)], (zHm.d p1)] <| zAF <| spc l35 rfl (fun g38 l35 => ?_) fun g38 l35 => ?_
   ·have c39 := ltT g38
    refine zER 14 rfl fun f40 => ?_
    rw [List.length_map] at f40
    refine zAG <| zAd <| zAF <| zAL ?_
    obtain ⟨x41, q42, l35⟩ := bs l35
    refine cut 24 2 [(1, .fn (.func 47) [] [.mptr 0 0, .mptr 1 0]), (5, .mptr 3 0), (14, .sl (p1.L.map zHm.c)), (15, .int .i64 p1.L.length), (16, .int .i64 i33)] [[.bool a31], [.omp (mks a32) (mvs AV.bool a32)], (zHm.d p1), (zHm.d x41)] (st (by simp [q42])) ?_
    obtain ⟨v43, q44, l35⟩ := bs l35
    refine last 24 2 [(1, .fn (.func 47) [] [.mptr 0 0, .mptr 1 0]), (14, .sl (p1.L.map zHm.c)), (15, .int .i64 p1.L.length), (16, .int .i64 i33)] [[.bool v43.1], [.omp (mks v43.2) (mvs AV.bool v43.2)], (zHm.d p1), (zHm.d x41)] ?_ fun zz hs => ?_
    ·refine st ?_
     simp
     have r46 := (zBu x41 a31 a32 v43 q44).frame [0, 1] [[.bool a31], [.omp (mks a32) (mvs AV.bool a32)], [.int .i64 p1.Op, .int .i64 p1.N, .str p1.S, .sl (p1.L.map zHm.c)], [.int .i64 x41.Op, .int .i64 x41.N, .str x41.S, .sl (x41.L.map zHm.c)]] (by simp)
     try simp at r46
     refine zA3 r46 (by simp) rfl ?_
     simp
    refine zEo <| zCL ?_ hs
    have q45 : Rng .i64 (((i33 : Nat) : Int) + 1) := by simp only [Rng, inR]; omega
    try simp at q45
    refine last 24 2 [(1, .fn (.func 47) [] [.mptr 0 0, .mptr 1 0]), (14, .sl (p1.L.map zHm.c)), (15, .int .i64 p1.L.length), (16, .int .i64 ((i33 + 1 : Nat) : Int))] [[.bool v43.1], [.omp (mks v43.2) (mvs AV.bool v43.2)], (zHm.d p1)] (st (by simp [q45])) fun zz hs => ?_
    exact ⟨(k37, v43.1, v43.2, i33 + 1), hs, l35, by simp⟩
   have c47 := ltF g38
   refine zER 14 rfl fun f48 => ?_
   rw [List.length_map] at f48
   refine zBA <| zAX ?_
   have q49 := Option.some.inj l35
   have q50 : o34.1 = a31 := by rw [← q49]
   have q51 : o34.2 = a32 := by rw [← q49]
   refine zAX <| zBC ?_
   obtain rfl := oi h
   simp [q50, q51]
theorem zBs (fuel : Nat) (p1 : zHm) (r : Bool) (h : zBV fuel p1 = some r) : Pure Tryz.prog 25 [.agg [.int .i64 p1.Op, .int .i64 p1.N, .str p1.S, .sl (p1.L.map zHm.c)]] (.bool r) := by
 rw [zBV] at h
 refine zAC Tryz.func25 (by rfl) (by rfl) (by simp) (by simp) (by simp) <| cutA 19 0 [(1, .mptr 0 0)] [(zHm.d p1)] <| zAF ?_
 obtain ⟨v2, q3, h⟩ := bs h
 refine cut 19 0 [(1, .mptr 0 0), (4, .bool v2.2)] [(zHm.d p1)] ?_ ?_
 ·refine st ?_
  simp
  have r10 := zFC fuel p1 20000 1 v2 q3
  try simp at r10
  refine zAD r10 (by simp) rfl ?_
  simp
 refine cutA 19 0 [(1, .mptr 0 0), (13, .bool (!v2.2))] [(zHm.d p1)] <| spc h rfl (fun g4 h => ?_) fun g4 h => ?_
 ·have g5 := notT g4
  refine cutA 19 0 [(2, .bool false)] [(zHm.d p1)] <| zAB <| zAH ?_
  obtain rfl := oi h
  simp
 have g6 := notF g4
 refine zAG <| zAd <| cutA 19 0 [(1, .mptr 0 0), (5, .mptr 1 0)] [(zHm.d p1), [.omp (mks ([] : List (List UInt8 × Bool))) (mvs AV.bool ([] : List (List UInt8 × Bool)))]] <| cutA 19 0 [(1, .mptr 0 0), (5, .mptr 1 0), (6, .mptr 2 0)] [(zHm.d p1), [.omp (mks ([] : List (List UInt8 × Bool))) (mvs AV.bool ([] : List (List UInt8 × Bool)))], [.bool true]] ?_
 obtain ⟨v7, q8, h⟩ := bs h
 refine cut 19 0 [(6, .mptr 2 0)] [(zHm.d p1), [.omp (mks v7.2) (mvs AV.bool v7.2)], [.bool v7.1]] ?_ ?_
 ·refine st ?_
  simp
  have r9 := (zC3 fuel p1 true ([] : List (List UInt8 × Bool)) v7 q8).frame [2, 1] [[.int .i64 p1.Op, .int .i64 p1.N, .str p1.S, .sl (p1.L.map zHm.c)], [.omp (mks ([] : List (List UInt8 × Bool))) (mvs AV.bool ([] : List (List UInt8 × Bool)))], [.bool true]] (by simp)
  try simp at r9
  refine zA3 r9 (by simp) rfl ?_
  simp
 refine cutA 19 0 [(2, .bool v7.1)] [(zHm.d p1), [.omp (mks v7.2) (mvs AV.bool v7.2)], [.bool v7.1]] <| zAB ?_
 obtain rfl := oi h
 simp
theorem zBN (fuel : Nat) : (∀ (s11 : (List zHm)) (s22 : (List zHm)) (r : Bool) (_ : zAc fuel s11 s22 = some r), Pure Tryz.prog 48 [.sl (s11.map zHm.c), .sl (s22.map zHm.c), .fn (.func 26) [] []] (.bool r)) ∧ (∀ (p1 : zHm) (q2 : zHm) (r : Bool) (_ : zAq fuel p1 q2 = some r), Pure Tryz.prog 26 [.agg [.int .i64 p1.Op, .int .i64 p1.N, .str p1.S, .sl (p1.L.map zHm.c)], .agg [.int .i64 q2.Op, .int .i64 q2.N, .str q2.S, .sl (q2.L.map zHm.c)]] (.bool r)) := by
 induction fuel with
 | zero =>
  refine ⟨?_, ?_⟩
  ·intro s11 s22 r h; rw [zAc] at h; cases h
  ·intro p1 q2 r h; rw [zAq] at h; cases h
 | succ fuel ih =>
  obtain ⟨zCP, zFd⟩ := ih
  refine ⟨?_, ?_⟩
  ·intro s11 s22 r h
   rw [zAc] at h
   refine zAC Tryz.func48 (by rfl) (by rfl) (by simp) (by simp) (by simp) <| cutA 32 0 [(0, .sl (s11.map zHm.c)), (1, .sl (s22.map zHm.c)), (2, .fn (.func 26) [] [])] [] <| zAF <| cutA 32 0 [(0, .sl (s11.map zHm.c)), (1, .sl (s22.map zHm.c)), (2, .fn (.func 26) [] []), (14, .bool (!(eqI (s11.length : Int) (s22.length : Int))))] [] ?_
   rcases sp h with ⟨g3, h⟩ | ⟨g3, h⟩
   ·have g4 := notT g3
    have c5 := eqF g4
    refine zGU rfl g3 <| cutA 32 0 [(6, .bool false)] [] <| zAB <| zAH ?_
    obtain rfl := oi h
    simp
   have g6 := notF g3
   have c7 := eqT g6
   refine zGV rfl g3 <| zAG <| zAd <| zAF <| cutA 32 0 [(1, .sl (s22.map zHm.c)), (2, .fn (.func 26) [] []), (15, .sl (s11.map zHm.c)), (16, .int .i64 s11.length), (17, .int .i64 0)] [] <| zAL ?_
   obtain ⟨o10, l11, h⟩ := bs h
   refine zBq (fun p : Nat × Nat => mkS 32 0 [(1, .sl (s22.map zHm.c)), (2, .fn (.func 26) [] []), (15, .sl (s11.map zHm.c)), (16, .int .i64 s11.length), (17, .int .i64 p.2)] []) (fun p => zAM (zAq fuel) s11 s22 p.1 p.2 = some o10) (fun p => p.1) (fuel, 0) l11 (zBO (by simp)) ?_
   rintro ⟨k12, i8⟩ l11
   try dsimp only at l11 ⊢
   cases k12 with
   | zero =>
    rw [zAM] at l11; cases l11
   | succ k13 =>
    rw [zAM] at l11
    refine cutA 32 0 [(1, .sl (s22.map zHm.c)), (2, .fn (.func 26) [] []), (15, .sl (s11.map zHm.c)), (16, .int .i64 s11.length), (17, .int .i64 i8), (18, .bool (ltI ((i8 : Nat) : Int) (s11.length : Int)))] [] <| zAF <| spc l11 rfl (fun g14 l11 => ?_) fun g14 l11 => ?_
    ·have c15 := ltT g14
     refine zER 15 rfl fun f16 => ?_
     rw [List.length_map] at f16
     refine zAG <| zAd <| zAF <| zAL ?_
     obtain ⟨x17, q18, l11⟩ := bs l11
     refine cut 32 0 [(1, .sl (s22.map zHm.c)), (2, .fn (.func 26) [] []), (7, .int .i64 i8), (8, .mptr 0 0), (15, .sl (s11.map zHm.c)), (16, .int .i64 s11.length), (17, .int .i64 i8)] [(zHm.d x17)] (st (by simp [q18])) ?_
     obtain ⟨x19, q20, l11⟩ := bs l11
     refine cut 32 0 [(1, .sl (s22.map zHm.c)), (2, .fn (.func 26) [] []), (8, .mptr 0 0), (9, .mptr 1 0), (15, .sl (s11.map zHm.c)), (16, .int .i64 s11.length), (17, .int .i64 i8)] [(zHm.d x17), (zHm.d x19)] (st (by simp [q20])) ?_
     obtain ⟨v21, q22, l11⟩ := bs l11
     refine cut 32 0 [(1, .sl (s22.map zHm.c)), (2, .fn (.func 26) [] []), (15, .sl (s11.map zHm.c)), (16, .int .i64 s11.length), (17, .int .i64 i8), (30, .bool (!v21))] [(zHm.d x17), (zHm.d x19)] ?_ ?_
     ·refine st ?_
      simp
      have r27 := zFd x17 x19 v21 q22
      try simp at r27
      refine zAD r27 (by simp) rfl ?_
      simp
     refine spc l11 rfl (fun g23 l11 => ?_) fun g23 l11 => ?_
     ·have g24 := notT g23
      refine cutA 32 0 [(6, .bool false)] [(zHm.d x17), (zHm.d x19)] <| zAB <| zAY <| zAH ?_
      replace h := retL l11 h
      refine zAH <| zAY <| zAH ?_
      obtain rfl := oi h
      simp
     have g25 := notF g23
     refine zAG <| zEo <| zAd ?_
     have q26 : Rng .i64 (((i8 : Nat) : Int) + 1) := by simp only [Rng, inR]; omega
     try simp at q26
     refine last 32 0 [(1, .sl (s22.map zHm.c)), (2, .fn (.func 26) [] []), (15, .sl (s11.map zHm.c)), (16, .int .i64 s11.length), (17, .int .i64 ((i8 + 1 : Nat) : Int))] [] (st (by simp [q26])) fun zz hs => ?_
     exact ⟨(k13, i8 + 1), hs, l11, by simp⟩
    have c28 := ltF g14
    refine zER 15 rfl fun f29 => ?_
    rw [List.length_map] at f29
    refine zBA <| zAX ?_
    rcases o10 with o10 | o9
    ·cases l11
    have q30 := Sum.inr.inj (Option.some.inj l11)
    replace h := elimR h
    refine zAX <| zBC <| zCL (t := mkS 32 0 [] []) ?_ (zBO (by simp))
    refine cutA 32 0 [(6, .bool true)] [] <| zAB ?_
    obtain rfl := oi h
    simp
  ·intro p1 q2 r h
   rw [zAq] at h
   refine zAC Tryz.func26 (by rfl) (by rfl) (by simp) (by simp) (by simp) <| cutA 39 0 [(2, .mptr 0 0), (3, .mptr 1 0)] [(zHm.d p1), (zHm.d q2)] <| zAF <| cut 39 0 [(2, .mptr 0 0), (3, .mptr 1 0), (12, .bool ((eqI p1.Op 1) || (eqI p1.Op 2)))] [(zHm.d p1), (zHm.d q2)] ?_ ?_
   ·rcases tf (eqI p1.Op 1) with g3 | g3
    ·have c4 := eqT g3
     refine st ?_
     simp [g3]
    have c5 := eqF g3
    refine st ?_
    simp [g3]
   rcases sp h with ⟨g6, h⟩ | ⟨g6, h⟩
   ·refine zGU rfl g6 <| cutA 39 0 [(4, .bool true)] [(zHm.d p1), (zHm.d q2)] <| zAB <| zAH ?_
    obtain rfl := oi h
    simp
   obtain ⟨g7, g8⟩ := orF g6
   have c9 := eqF g7
   have c10 := eqF g8
   refine zGV rfl g6 <| zAG <| zAd ?_
   obtain ⟨b20, q21, h⟩ := bs h
   refine cut 39 0 [(4, .bool b20)] [(zHm.d p1), (zHm.d q2)] ?_ ?_
   ·rcases sp q21 with ⟨g11, q21⟩ | ⟨g11, q21⟩
    ·have c12 := eqT g11
     rcases sp q21 with ⟨g13, q21⟩ | ⟨g13, q21⟩
     ·have c14 := eqT g13
      rcases sp q21 with ⟨g15, q21⟩ | ⟨g15, q21⟩
      ·obtain ⟨v16, q17, q21⟩ := bs q21
       obtain rfl := oi q21
       have g11x := g11
       try simp only [g13, g15] at g11x
       have g13x := g13
       try simp only [g11, g15] at g13x
       have g15x := g15
       try simp only [g11, g13] at g15x
       refine zCz <| WL.cut 25 39 0 [(32, .bool (eqS p1.S q2.S)), (37, .bool v16)] [(zHm.d p1), (zHm.d q2)] ?_ ?_
       ·simp [g11, g13, g15, g11x, g13x, g15x]
        have r22 := zCP p1.L q2.L v16 q17
        try simp [g11, g13, g15, g11x, g13x, g15x] at r22
        refine zAD r22 (by simp) rfl ?_
        simp [g11, g13, g15, g11x, g13x, g15x]
       refine WL.last ?_
       simp [g11, g13, g15, g11x, g13x, g15x]
      obtain rfl := oi q21
      refine st ?_
      simp [g11, g13, g15]
     have c18 := eqF g13
     obtain rfl := oi q21
     refine st ?_
     simp [g11, g13]
    have c19 := eqF g11
    obtain rfl := oi q21
    refine st ?_
    simp [g11]
   refine zAB ?_
   obtain rfl := oi h
   simp
theorem zFZ (fuel : Nat) : (∀ (p1 : zHm) (q2 : zHm) (r : Bool) (_ : zAq fuel p1 q2 = some r), Pure Tryz.prog 26 [.agg [.int .i64 p1.Op, .int .i64 p1.N, .str p1.S, .sl (p1.L.map zHm.c)], .agg [.int .i64 q2.Op, .int .i64 q2.N, .str q2.S, .sl (q2.L.map zHm.c)]] (.bool r)) := (zBN fuel).2
theorem zBP (fuel : Nat) (p1 : zHm) (q2 : zHm) (r : Bool × Int) (h : zAe fuel p1 q2 = some r) : Pure Tryz.prog 8 [.agg [.int .i64 p1.Op, .int .i64 p1.N, .str p1.S, .sl (p1.L.map zHm.c)], .agg [.int .i64 q2.Op, .int .i64 q2.N, .str q2.S, .sl (q2.L.map zHm.c)]] (.tup [.bool r.1, .int .i64 r.2]) := by
 rw [zAe] at h
 refine zAC Tryz.func8 (by rfl) (by rfl) (by simp) (by simp) (by simp) <| cutA 17 0 [(2, .mptr 0 0), (3, .mptr 1 0)] [(zHm.d p1), (zHm.d q2)] <| zAF ?_
 obtain ⟨b10, q11, h⟩ := bs h
 refine cut 17 0 [(2, .mptr 0 0), (3, .mptr 1 0), (13, .bool b10)] [(zHm.d p1), (zHm.d q2)] ?_ ?_
 ·obtain ⟨v3, q4, q11⟩ := bs q11
  rcases sp q11 with ⟨g5, q11⟩ | ⟨g5, q11⟩
  ·have g6 := notT g5
   obtain rfl := oi q11
   refine st ?_
   simp [g5]
   have r16 := zBs fuel p1 v3 q4
   try simp [g5] at r16
   refine zAD r16 (by simp) rfl ?_
   simp [g5]
  have g7 := notF g5
  obtain ⟨v8, q9, q11⟩ := bs q11
  obtain rfl := oi q11
  refine st ?_
  simp [g5]
  have r17 := zBs fuel p1 v3 q4
  try simp [g5] at r17
  refine zAD r17 (by simp) rfl ?_
  simp [g5]
  have r18 := zBs fuel q2 v8 q9
  try simp [g5] at r18
  refine zAD r18 (by simp) rfl ?_
  simp [g5]
 refine spc h rfl (fun g12 h => ?_) fun g12 h => ?_
 ·refine cutA 17 0 [(4, .bool false), (5, .int .i64 1)] [(zHm.d p1), (zHm.d q2)] <| zAB <| zAH ?_
  obtain rfl := oi h
  simp
 refine zAG <| zAd ?_
 obtain ⟨v13, q14, h⟩ := bs h
 refine cut 17 0 [(4, .bool v13), (5, .int .i64 0)] [(zHm.d p1), (zHm.d q2)] ?_ ?_
 ·refine st ?_
  simp
  have r15 := zFZ fuel p1 q2 v13 q14
  try simp at r15
  refine zAD r15 (by simp) rfl ?_
  simp
 refine zAB ?_
 obtain rfl := oi h
 simp
theorem zFR (fuel : Nat) (l1 : (List (List UInt8))) (s2 : (List UInt8)) (r : Int) (h : zCi fuel l1 s2 = some r) : Pure Tryz.prog 29 [.sl (l1.map cS), .str s2] (.int .i64 r) := by
 rw [zCi] at h
 refine zAC Tryz.func29 (by rfl) (by rfl) (by simp) (by simp) (by simp) <| cutA 19 0 [(0, .sl (l1.map cS)), (1, .str s2)] [] <| zAF <| cutA 19 0 [(0, .sl (l1.map cS)), (1, .str s2), (5, .int .i64 0)] [] <| zAL ?_
 obtain ⟨o5, l6, h⟩ := bs h
 refine zBq (fun p : Nat × Nat => mkS 19 0 [(0, .sl (l1.map cS)), (1, .str s2), (5, .int .i64 p.2)] []) (fun p => zBG l1 s2 p.1 p.2 = some o5) (fun p => p.1) (fuel, 0) l6 (zBO (by simp)) ?_
 rintro ⟨k7, i3⟩ l6
 try dsimp only at l6 ⊢
 cases k7 with
 | zero =>
  rw [zBG] at l6; cases l6
 | succ k8 =>
  rw [zBG] at l6
  refine zAF <| cutA 19 0 [(0, .sl (l1.map cS)), (1, .str s2), (5, .int .i64 i3), (9, .bool (ltI ((i3 : Nat) : Int) (l1.length : Int)))] [] <| spc l6 rfl (fun g9 l6 => ?_) fun g9 l6 => ?_
  ·have c10 := ltT g9
   refine zER 0 rfl fun f11 => ?_
   rw [List.length_map] at f11
   refine zAG <| zAd <| zAF <| zAL ?_
   obtain ⟨x12, q13, l6⟩ := bs l6
   refine cut 19 0 [(0, .sl (l1.map cS)), (1, .str s2), (5, .int .i64 i3), (17, .bool (eqS x12 s2))] [] (st (by simp [q13])) <| spc l6 rfl (fun g14 l6 => ?_) fun g14 l6 => ?_
   ·refine cutA 19 0 [(4, .int .i64 i3)] [] <| zAB <| zAY <| zAH ?_
    replace h := retL l6 h
    refine zAH <| zAY <| zAH ?_
    obtain rfl := oi h
    simp
   refine zAG <| zEo <| zAd ?_
   have q15 : Rng .i64 (((i3 : Nat) : Int) + 1) := by simp only [Rng, inR]; omega
   try simp at q15
   refine last 19 0 [(0, .sl (l1.map cS)), (1, .str s2), (5, .int .i64 ((i3 + 1 : Nat) : Int))] [] (st (by simp [q15])) fun zz hs => ?_
   exact ⟨(k8, i3 + 1), hs, l6, by simp⟩
  have c16 := ltF g9
  refine zER 0 rfl fun f17 => ?_
  rw [List.length_map] at f17
  refine zBA <| zAX ?_
  rcases o5 with o5 | o4
  ·cases l6
  have q18 := Sum.inr.inj (Option.some.inj l6)
  replace h := elimR h
  refine zAX <| zBC <| zCL (t := mkS 19 0 [] []) ?_ (zBO (by simp))
  refine cutA 19 0 [(4, .int .i64 (-1))] [] <| zAB ?_
  obtain rfl := oi h
  simp
theorem zBy (c1 : UInt8) (r : Bool) (h : zBw c1 = some r) : Pure Tryz.prog 118 [.int .u8 c1.toNat] (.bool r) := by
 rw [zBw] at h
 refine zAC Tryz.func118 (by rfl) (by rfl) (by simp) (by simp) (by simp) <| cutA 9 0 [(0, .int .u8 c1.toNat)] [] <| cut 9 0 [(2, .bool ((leI 97 (c1.toNat : Int)) && (leI (c1.toNat : Int) 122)))] [] ?_ ?_
 ·rcases tf (leI 97 (c1.toNat : Int)) with g2 | g2
  ·have c3 := leT g2
   refine st ?_
   simp [g2]
  have c4 := leF g2
  refine st ?_
  simp [g2]
 refine zAB ?_
 obtain rfl := oi h
 simp
theorem zCO (c1 : UInt8) (r : Bool) (h : zBU c1 = some r) : Pure Tryz.prog 120 [.int .u8 c1.toNat] (.bool r) := by
 rw [zBU] at h
 refine zAC Tryz.func120 (by rfl) (by rfl) (by simp) (by simp) (by simp) <| cutA 9 0 [(0, .int .u8 c1.toNat)] [] <| cut 9 0 [(2, .bool ((leI 65 (c1.toNat : Int)) && (leI (c1.toNat : Int) 90)))] [] ?_ ?_
 ·rcases tf (leI 65 (c1.toNat : Int)) with g2 | g2
  ·have c3 := leT g2
   refine st ?_
   simp [g2]
  have c4 := leF g2
  refine st ?_
  simp [g2]
 refine zAB ?_
 obtain rfl := oi h
 simp
theorem zEy (c1 : UInt8) (r : Bool) (h : zEG c1 = some r) : Pure Tryz.prog 192 [.int .u8 c1.toNat] (.bool r) := by
 rw [zEG] at h
 refine zAC Tryz.func192 (by rfl) (by rfl) (by simp) (by simp) (by simp) <| cutA 9 0 [(0, .int .u8 c1.toNat)] [] <| cut 9 0 [(2, .bool ((leI 48 (c1.toNat : Int)) && (leI (c1.toNat : Int) 57)))] [] ?_ ?_
 ·rcases tf (leI 48 (c1.toNat : Int)) with g2 | g2
  ·have c3 := leT g2
   refine st ?_
   simp [g2]
  have c4 := leF g2
  refine st ?_
  simp [g2]
 refine zAB ?_
 obtain rfl := oi h
 simp
theorem zHN (c1 : UInt8) (r : Bool) (h : zCI c1 = some r) : Pure Tryz.prog 174 [.int .u8 c1.toNat] (.bool r) := by
 rw [zCI] at h
 refine zAC Tryz.func174 (by rfl) (by rfl) (by simp) (by simp) (by simp) <| cutA 17 0 [(0, .int .u8 c1.toNat)] [] ?_
 obtain ⟨b11, q12, h⟩ := bs h
 refine cut 17 0 [(2, .bool b11)] [] ?_ ?_
 ·obtain ⟨v2, q3, q12⟩ := bs q12
  rcases sp q12 with ⟨g4, q12⟩ | ⟨g4, q12⟩
  ·obtain rfl := oi q12
   refine st ?_
   simp [g4]
   have r13 := zBy c1 v2 q3
   try simp [g4] at r13
   refine zAD r13 (by simp) rfl ?_
   simp [g4]
  obtain ⟨v5, q6, q12⟩ := bs q12
  rcases sp q12 with ⟨g7, q12⟩ | ⟨g7, q12⟩
  ·obtain rfl := oi q12
   refine st ?_
   simp [g4, g7]
   have r14 := zBy c1 v2 q3
   try simp [g4, g7] at r14
   refine zAD r14 (by simp) rfl ?_
   simp [g4, g7]
   have r15 := zCO c1 v5 q6
   try simp [g4, g7] at r15
   refine zAD r15 (by simp) rfl ?_
   simp [g4, g7]
  obtain ⟨v8, q9, q12⟩ := bs q12
  rcases sp q12 with ⟨g10, q12⟩ | ⟨g10, q12⟩
  ·obtain rfl := oi q12
   have g4x := g4
   try simp only [g7, g10] at g4x
   have g7x := g7
   try simp only [g4, g10] at g7x
   have g10x := g10
   try simp only [g4, g7] at g10x
   refine zCz <| WL.cut 2 17 0 [(0, .int .u8 c1.toNat), (4, .bool v2)] [] ?_ ?_
   ·simp [g4, g7, g10, g4x, g7x, g10x]
    have r16 := zBy c1 v2 q3
    try simp [g4, g7, g10, g4x, g7x, g10x] at r16
    refine zAD r16 (by simp) rfl ?_
    simp [g4, g7, g10, g4x, g7x, g10x]
   refine WL.cut 3 17 0 [(0, .int .u8 c1.toNat), (5, .bool v2), (7, .bool v5)] [] ?_ ?_
   ·simp [g4, g7, g10, g4x, g7x, g10x]
    have r17 := zCO c1 v5 q6
    try simp [g4, g7, g10, g4x, g7x, g10x] at r17
    refine zAD r17 (by simp) rfl ?_
    simp [g4, g7, g10, g4x, g7x, g10x]
   refine WL.cut 4 17 0 [(0, .int .u8 c1.toNat), (9, .bool v5), (11, .bool v8)] [] ?_ ?_
   ·simp [g4, g7, g10, g4x, g7x, g10x]
    have r18 := zEy c1 v8 q9
    try simp [g4, g7, g10, g4x, g7x, g10x] at r18
    refine zAD r18 (by simp) rfl ?_
    simp [g4, g7, g10, g4x, g7x, g10x]
   refine WL.last ?_
   simp [g4, g7, g10, g4x, g7x, g10x]
  obtain rfl := oi q12
  have g4x := g4
  try simp only [g7, g10] at g4x
  have g7x := g7
  try simp only [g4, g10] at g7x
  have g10x := g10
  try simp only [g4, g7] at g10x
  refine zCz <| WL.cut 2 17 0 [(0, .int .u8 c1.toNat), (4, .bool v2)] [] ?_ ?_
  ·simp [g4, g7, g10, g4x, g7x, g10x]
   have r19 := zBy c1 v2 q3
   try simp [g4, g7, g10, g4x, g7x, g10x] at r19
   refine zAD r19 (by simp) rfl ?_
   simp [g4, g7, g10, g4x, g7x, g10x]
  refine WL.cut 3 17 0 [(0, .int .u8 c1.toNat), (5, .bool v2), (7, .bool v5)] [] ?_ ?_
  ·simp [g4, g7, g10, g4x, g7x, g10x]
   have r20 := zCO c1 v5 q6
   try simp [g4, g7, g10, g4x, g7x, g10x] at r20
   refine zAD r20 (by simp) rfl ?_
   simp [g4, g7, g10, g4x, g7x, g10x]
  refine WL.cut 4 17 0 [(0, .int .u8 c1.toNat), (9, .bool v5), (11, .bool v8)] [] ?_ ?_
  ·simp [g4, g7, g10, g4x, g7x, g10x]
   have r21 := zEy c1 v8 q9
   try simp [g4, g7, g10, g4x, g7x, g10x] at r21
   refine zAD r21 (by simp) rfl ?_
   simp [g4, g7, g10, g4x, g7x, g10x]
  refine WL.last ?_
  simp [g4, g7, g10, g4x, g7x, g10x]
 refine zAB ?_
 obtain rfl := oi h
 simp
theorem zHM (fuel : Nat) (s1 : (List UInt8)) (r : Bool) (h : zCq fuel s1 = some r) : Pure Tryz.prog 145 [.str s1] (.bool r) := by
 rw [zCq] at h
 refine zAC Tryz.func145 (by rfl) (by rfl) (by simp) (by simp) (by simp) <| cutA 15 0 [(0, .str s1)] [] <| zAF <| cutA 15 0 [(0, .str s1), (3, .int .i64 0)] [] <| zAL ?_
 obtain ⟨o4, l5, h⟩ := bs h
 refine zBq (fun p : Nat × Nat => mkS 15 0 [(0, .str s1), (3, .int .i64 p.2)] []) (fun p => zA7 s1 p.1 p.2 = some o4) (fun p => p.1) (fuel, 0) l5 (zBO (by simp)) ?_
 rintro ⟨k6, i2⟩ l5
 try dsimp only at l5 ⊢
 cases k6 with
 | zero =>
  rw [zA7] at l5; cases l5
 | succ k7 =>
  rw [zA7] at l5
  refine zAF <| cutA 15 0 [(0, .str s1), (3, .int .i64 i2), (7, .bool (ltI ((i2 : Nat) : Int) (s1.length : Int)))] [] <| spc l5 rfl (fun g8 l5 => ?_) fun g8 l5 => ?_
  ·have c9 := ltT g8
   refine factS 0 rfl fun f10 => ?_
   refine zAG <| zAd <| zAF <| zAL ?_
   obtain ⟨c11, q12, l5⟩ := bs l5
   obtain ⟨v13, q14, l5⟩ := bs l5
   refine cut 15 0 [(0, .str s1), (3, .int .i64 i2), (14, .bool (!v13))] [] ?_ ?_
   ·refine st ?_
    simp [q12]
    have r19 := zHN c11 v13 q14
    try simp [q12] at r19
    refine zAD r19 (by simp) rfl ?_
    simp [q12]
   refine spc l5 rfl (fun g15 l5 => ?_) fun g15 l5 => ?_
   ·have g16 := notT g15
    refine cutA 15 0 [(2, .bool false)] [] <| zAB <| zAY <| zAH ?_
    replace h := retL l5 h
    refine zAH <| zAY <| zAH ?_
    obtain rfl := oi h
    simp
   have g17 := notF g15
   refine zAG <| zEo <| zAd ?_
   have q18 : Rng .i64 (((i2 : Nat) : Int) + 1) := by simp only [Rng, inR]; omega
   try simp at q18
   refine last 15 0 [(0, .str s1), (3, .int .i64 ((i2 + 1 : Nat) : Int))] [] (st (by simp [q18])) fun zz hs => ?_
   exact ⟨(k7, i2 + 1), hs, l5, by simp⟩
  have c20 := ltF g8
  refine factS 0 rfl fun f21 => ?_
  refine zBA <| zAX ?_
  rcases o4 with o4 | o3
  ·cases l5
  have q22 := Sum.inr.inj (Option.some.inj l5)
  replace h := elimR h
  refine zAX <| zBC <| zCL (t := mkS 15 0 [] []) ?_ (zBO (by simp))
  refine cutA 15 0 [(2, .bool true)] [] <| zAB ?_
  obtain rfl := oi h
  simp
theorem zCn (fuel : Nat) (s1 : (List UInt8)) (r : Bool) (h : zCh fuel s1 = some r) : Pure Tryz.prog 117 [.str s1] (.bool r) := by
 rw [zCh] at h
 refine zAC Tryz.func117 (by rfl) (by rfl) (by simp) (by simp) (by simp) <| cutA 15 0 [(0, .str s1)] [] ?_
 obtain ⟨b12, q13, h⟩ := bs h
 refine cut 15 0 [(2, .bool b12)] [] ?_ ?_
 ·rcases sp q13 with ⟨g2, q13⟩ | ⟨g2, q13⟩
  ·have c3 := leT g2
   refine factS 0 rfl fun f4 => ?_
   rcases sp q13 with ⟨g5, q13⟩ | ⟨g5, q13⟩
   ·have c6 := leT g5
    obtain ⟨v7, q8, q13⟩ := bs q13
    obtain rfl := oi q13
    refine st ?_
    simp [g2, g5]
    have r14 := zHM fuel s1 v7 q8
    try simp [g2, g5] at r14
    refine zAD r14 (by simp) rfl ?_
    simp [g2, g5]
   have c9 := leF g5
   obtain rfl := oi q13
   refine st ?_
   simp [g2, g5]
  have c10 := leF g2
  refine factS 0 rfl fun f11 => ?_
  obtain rfl := oi q13
  refine st ?_
  simp [g2]
 refine zAB ?_
 obtain rfl := oi h
 simp
theorem ref01_Keys_ok (r : (List (List UInt8))) (h : zDB = some r) : Pure Tryz.prog 119 [] (.sl (r.map cS)) := by
 rw [zDB] at h
 refine zAC Tryz.func119 (by rfl) (by rfl) (by simp) (by simp) (by simp) <| cutA 2 0 [] [] ?_
 obtain ⟨l1, q2, h⟩ := bs h
 obtain ⟨q3, q4⟩ := lit_ok q2
 refine cut 2 0 [(0, .osl ⟨1, 9⟩ (l1.map cS))] [] (st (by simp [q3, q4])) <| zAB ?_
 obtain rfl := oi h
 simp
theorem zDz (fuel : Nat) (s1 : (List UInt8)) (r : Bool) (h : zB8 fuel s1 = some r) : Pure Tryz.prog 73 [.str s1] (.bool r) := by
 rw [zB8] at h
 refine zAC Tryz.func73 (by rfl) (by rfl) (by simp) (by simp) (by simp) <| cutA 16 0 [(0, .str s1)] [] ?_
 obtain ⟨b14, q15, h⟩ := bs h
 refine cut 16 0 [(2, .bool b14)] [] ?_ ?_
 ·obtain ⟨v2, q3, q15⟩ := bs q15
  rcases sp q15 with ⟨g4, q15⟩ | ⟨g4, q15⟩
  ·obtain ⟨c5, q6, q15⟩ := bs q15
   obtain ⟨v7, q8, q15⟩ := bs q15
   rcases sp q15 with ⟨g9, q15⟩ | ⟨g9, q15⟩
   ·obtain ⟨v10, q11, q15⟩ := bs q15
    obtain ⟨v12, q13, q15⟩ := bs q15
    obtain rfl := oi q15
    have g4x := g4
    try simp only [g9] at g4x
    have g9x := g9
    try simp only [g4] at g9x
    refine zCz <| WL.cut 2 16 0 [(0, .str s1), (4, .bool v2)] [] ?_ ?_
    ·simp [g4, q6, g9, g4x, g9x]
     have r16 := zCn fuel s1 v2 q3
     try simp [g4, q6, g9, g4x, g9x] at r16
     refine zAD r16 (by simp) rfl ?_
     simp [g4, q6, g9, g4x, g9x]
    refine WL.cut 4 16 0 [(0, .str s1), (5, .bool v2), (8, .bool v7)] [] ?_ ?_
    ·simp [g4, q6, g9, g4x, g9x]
     have r17 := zBy c5 v7 q8
     try simp [g4, q6, g9, g4x, g9x] at r17
     refine zAD r17 (by simp) rfl ?_
     simp [g4, q6, g9, g4x, g9x]
    refine WL.cut 3 16 0 [(0, .str s1), (10, .bool v7), (11, .sl (v10.map cS))] [] ?_ ?_
    ·simp [g4, q6, g9, g4x, g9x]
     have r18 := ref01_Keys_ok v10 q11
     try simp [g4, q6, g9, g4x, g9x] at r18
     refine zAD r18 (by simp) rfl ?_
     simp [g4, q6, g9, g4x, g9x]
    refine WL.cut 2 16 0 [(10, .bool v7), (13, .int .i64 v12)] [] ?_ ?_
    ·simp [g4, q6, g9, g4x, g9x]
     have r19 := zFR fuel v10 s1 v12 q13
     try simp [g4, q6, g9, g4x, g9x] at r19
     refine zAD r19 (by simp) rfl ?_
     simp [g4, q6, g9, g4x, g9x]
    refine WL.last ?_
    simp [g4, q6, g9, g4x, g9x]
   obtain rfl := oi q15
   refine st ?_
   simp [g4, q6, g9]
   have r20 := zCn fuel s1 v2 q3
   try simp [g4, q6, g9] at r20
   refine zAD r20 (by simp) rfl ?_
   simp [g4, q6, g9]
   have r21 := zBy c5 v7 q8
   try simp [g4, q6, g9] at r21
   refine zAD r21 (by simp) rfl ?_
   simp [g4, q6, g9]
  obtain rfl := oi q15
  refine st ?_
  simp [g4]
  have r22 := zCn fuel s1 v2 q3
  try simp [g4] at r22
  refine zAD r22 (by simp) rfl ?_
  simp [g4]
 refine zAB ?_
 obtain rfl := oi h
 simp
theorem zDy (fuel : Nat) (s1 : (List UInt8)) (r : Bool) (h : zB7 fuel s1 = some r) : Pure Tryz.prog 74 [.str s1] (.bool r) := by
 rw [zB7] at h
 refine zAC Tryz.func74 (by rfl) (by rfl) (by simp) (by simp) (by simp) <| cutA 10 0 [(0, .str s1)] [] ?_
 obtain ⟨b9, q10, h⟩ := bs h
 refine cut 10 0 [(2, .bool b9)] [] ?_ ?_
 ·obtain ⟨v2, q3, q10⟩ := bs q10
  rcases sp q10 with ⟨g4, q10⟩ | ⟨g4, q10⟩
  ·obtain ⟨c5, q6, q10⟩ := bs q10
   obtain ⟨v7, q8, q10⟩ := bs q10
   obtain rfl := oi q10
   refine st ?_
   simp [g4, q6]
   have r11 := zCn fuel s1 v2 q3
   try simp [g4, q6] at r11
   refine zAD r11 (by simp) rfl ?_
   simp [g4, q6]
   have r12 := zCO c5 v7 q8
   try simp [g4, q6] at r12
   refine zAD r12 (by simp) rfl ?_
   simp [g4, q6]
  obtain rfl := oi q10
  refine st ?_
  simp [g4]
  have r13 := zCn fuel s1 v2 q3
  try simp [g4] at r13
  refine zAD r13 (by simp) rfl ?_
  simp [g4]
 refine zAB ?_
 obtain rfl := oi h
 simp
theorem ref20_node_ok (fuel : Nat) (p1 : zHm) (r : Bool) (h : zC9 fuel p1 = some r) : Pure Tryz.prog 49 [.agg [.int .i64 p1.Op, .int .i64 p1.N, .str p1.S, .sl (p1.L.map zHm.c)]] (.bool r) := by
 rw [zC9] at h
 refine zAC Tryz.func49 (by rfl) (by rfl) (by simp) (by simp) (by simp) <| cutA 84 0 [(1, .mptr 0 0)] [(zHm.d p1)] <| zAF <| cut 84 0 [(1, .mptr 0 0), (25, .bool (if !(eqI p1.N 0) then (!(eqI p1.Op 3)) || ((!(eqS p1.S ([] : List UInt8))) && ((!(eqI p1.Op 2)) && (!(eqI p1.Op 4)))) else (!(eqS p1.S ([] : List UInt8))) && ((!(eqI p1.Op 2)) && (!(eqI p1.Op 4)))))] [(zHm.d p1)] ?_ ?_
 ·rcases tf (!(eqI p1.N 0)) with g2 | g2
  ·have g3 := notT g2
   have c4 := eqF g3
   rcases tf (!(eqI p1.Op 3)) with g5 | g5
   ·have g6 := notT g5
    have c7 := eqF g6
    refine st ?_
    simp [g2, g5]
   have g8 := notF g5
   have c9 := eqT g8
   rcases tf (!(eqS p1.S ([] : List UInt8))) with g10 | g10
   ·have g11 := notT g10
    rcases tf (!(eqI p1.Op 2)) with g12 | g12
    ·have g13 := notT g12
     have c14 := eqF g13
     refine st ?_
     simp [g2, g5, g10, g12]
    have g15 := notF g12
    have c16 := eqT g15
    refine st ?_
    simp [g2, g5, g10, g12]
   have g17 := notF g10
   refine st ?_
   simp [g2, g5, g10]
  have g18 := notF g2
  have c19 := eqT g18
  rcases tf (!(eqS p1.S ([] : List UInt8))) with g20 | g20
  ·have g21 := notT g20
   rcases tf (!(eqI p1.Op 2)) with g22 | g22
   ·have g23 := notT g22
    have c24 := eqF g23
    refine st ?_
    simp [g2, g20, g22]
   have g25 := notF g22
   have c26 := eqT g25
   refine st ?_
   simp [g2, g20, g22]
  have g27 := notF g20
  refine st ?_
  simp [g2, g20]
 refine spc h rfl (fun g28 h => ?_) fun g28 h => ?_
 ·refine cutA 84 0 [(2, .bool false)] [(zHm.d p1)] <| zAB <| zAH ?_
  obtain rfl := oi h
  simp
 refine zAG <| zAd <| zAF <| cutA 84 0 [(1, .mptr 0 0), (27, .int .i64 p1.Op)] [(zHm.d p1)] <| zAL <| cutA 84 0 [(1, .mptr 0 0), (27, .int .i64 p1.Op), (28, .bool (eqI p1.Op 1))] [(zHm.d p1)] <| spc h rfl (fun g29 h => ?_) fun g29 h => ?_
 ·refine cutA 84 0 [(2, .bool (eqI (p1.L.length : Int) 0))] [(zHm.d p1)] <| zAB <| zAY <| zAH ?_
  obtain rfl := oi h
  simp
 refine cutA 84 0 [(1, .mptr 0 0), (27, .int .i64 p1.Op), (34, .bool (eqI p1.Op 2))] [(zHm.d p1)] <| spc h rfl (fun g32 h => ?_) fun g32 h => ?_
 ·obtain ⟨b37, q38, h⟩ := bs h
  refine cut 84 0 [(2, .bool b37)] [(zHm.d p1)] ?_ ?_
  ·obtain ⟨v34, q35, q38⟩ := bs q38
   rcases sp q38 with ⟨g36, q38⟩ | ⟨g36, q38⟩
   ·obtain rfl := oi q38
    refine st ?_
    simp [g36]
    have r39 := zDz fuel p1.S v34 q35
    try simp [g36] at r39
    refine zAD r39 (by simp) rfl ?_
    simp [g36]
   obtain rfl := oi q38
   refine st ?_
   simp [g36]
   have r40 := zDz fuel p1.S v34 q35
   try simp [g36] at r40
   refine zAD r40 (by simp) rfl ?_
   simp [g36]
  refine zAB <| zAY <| zAH ?_
  obtain rfl := oi h
  simp
 refine cutA 84 0 [(1, .mptr 0 0), (27, .int .i64 p1.Op), (45, .bool (eqI p1.Op 3))] [(zHm.d p1)] <| spc h rfl (fun g42 h => ?_) fun g42 h => ?_
 ·refine cut 84 0 [(2, .bool ((leI (-4503599627370496) p1.N) && ((leI p1.N 4503599627370496) && (eqI (p1.L.length : Int) 0))))] [(zHm.d p1)] ?_ ?_
  ·rcases tf (leI (-4503599627370496) p1.N) with g44 | g44
   ·have c45 := leT g44
    rcases tf (leI p1.N 4503599627370496) with g46 | g46
    ·have c47 := leT g46
     refine st ?_
     simp [g44, g46]
    have c48 := leF g46
    refine st ?_
    simp [g44, g46]
   have c49 := leF g44
   refine st ?_
   simp [g44]
  refine zAB <| zAY <| zAH ?_
  obtain rfl := oi h
  simp
 refine cutA 84 0 [(1, .mptr 0 0), (27, .int .i64 p1.Op), (61, .bool (eqI p1.Op 4))] [(zHm.d p1)] <| spc h rfl (fun g51 h => ?_) fun g51 h => ?_
 ·obtain ⟨b56, q57, h⟩ := bs h
  refine cut 84 0 [(2, .bool b56)] [(zHm.d p1)] ?_ ?_
  ·obtain ⟨v53, q54, q57⟩ := bs q57
   rcases sp q57 with ⟨g55, q57⟩ | ⟨g55, q57⟩
   ·obtain rfl := oi q57
    refine st ?_
    simp [g55]
    have r58 := zDy fuel p1.S v53 q54
    try simp [g55] at r58
    refine zAD r58 (by simp) rfl ?_
    simp [g55]
   obtain rfl := oi q57
   refine st ?_
   simp [g55]
   have r59 := zDy fuel p1.S v53 q54
   try simp [g55] at r59
   refine zAD r59 (by simp) rfl ?_
   simp [g55]
  refine zAB <| zAY <| zAH ?_
  obtain rfl := oi h
  simp
 refine cutA 84 0 [(1, .mptr 0 0), (72, .bool (eqI p1.Op 5))] [(zHm.d p1)] <| spc h rfl (fun g61 h => ?_) fun g61 h => ?_
 ·refine cut 84 0 [(2, .bool ((!(eqI (p1.L.length : Int) 1)) && (leI (p1.L.length : Int) 9)))] [(zHm.d p1)] ?_ ?_
  ·rcases tf (!(eqI (p1.L.length : Int) 1)) with g63 | g63
   ·have g64 := notT g63
    have c65 := eqF g64
    refine st ?_
    simp [g63]
   have g66 := notF g63
   have c67 := eqT g66
   refine st ?_
   simp [g63]
  refine zAB <| zAY <| zAH ?_
  obtain rfl := oi h
  simp
 refine zAG <| zEo <| zAd <| cutA 84 0 [(2, .bool false)] [(zHm.d p1)] <| zAB ?_
 obtain rfl := oi h
 simp
theorem zHL (fuel : Nat) : (∀ (p1 : zHm) (left2 : Int) (depth3 : Int) (r : Int) (_ : zBF fuel p1 left2 depth3 = some r), Pure Tryz.prog 27 [.agg [.int .i64 p1.Op, .int .i64 p1.N, .str p1.S, .sl (p1.L.map zHm.c)], .int .i64 left2, .int .i64 depth3] (.int .i64 r)) := by
 induction fuel with
 | zero => intro p1 left2 depth3 r h; rw [zBF] at h; cases h
 | succ fuel zHY =>
  intro p1 left2 depth3 r h
  rw [zBF] at h
  refine zAC Tryz.func27 (by rfl) (by rfl) (by simp) (by simp) (by simp) <| cutA 42 0 [(1, .int .i64 left2), (2, .int .i64 depth3), (3, .mptr 0 0)] [(zHm.d p1)] <| zAF ?_
  obtain ⟨b12, q13, h⟩ := bs h
  refine cut 42 0 [(1, .int .i64 left2), (2, .int .i64 depth3), (3, .mptr 0 0), (18, .bool b12)] [(zHm.d p1)] ?_ ?_
  ·rcases sp q13 with ⟨g4, q13⟩ | ⟨g4, q13⟩
   ·have c5 := ltT g4
    obtain rfl := oi q13
    refine st ?_
    simp [g4]
   have c6 := ltF g4
   rcases sp q13 with ⟨g7, q13⟩ | ⟨g7, q13⟩
   ·have c8 := ltT g7
    obtain rfl := oi q13
    refine st ?_
    simp [g4, g7]
   have c9 := ltF g7
   obtain ⟨v10, q11, q13⟩ := bs q13
   obtain rfl := oi q13
   refine st ?_
   simp [g4, g7]
   have r49 := ref20_node_ok fuel p1 v10 q11
   try simp [g4, g7] at r49
   refine zAD r49 (by simp) rfl ?_
   simp [g4, g7]
  refine spc h rfl (fun g14 h => ?_) fun g14 h => ?_
  ·refine cutA 42 0 [(6, .int .i64 (-1))] [(zHm.d p1)] <| zAB <| zAH ?_
   obtain rfl := oi h
   simp
  refine zAG <| zAd ?_
  obtain ⟨n15, q16, h⟩ := bs h
  obtain ⟨q17, q18⟩ := zFI q16
  try simp at q17
  try simp at q18
  have c19 := q17; simp only [Rng, inR] at c19
  refine cut 42 0 [(1, .int .i64 n15), (2, .int .i64 depth3), (3, .mptr 0 0)] [(zHm.d p1)] (st (by simp [q17, q18])) <| zAF <| cutA 42 0 [(1, .int .i64 n15), (2, .int .i64 depth3), (3, .mptr 0 0), (7, .int .i64 0)] [(zHm.d p1)] <| zAL ?_
  obtain ⟨o22, l23, h⟩ := bs h
  refine zBq (fun p : Nat × Int × Nat => mkS 42 0 [(1, .int .i64 p.2.1), (2, .int .i64 depth3), (3, .mptr 0 0), (7, .int .i64 p.2.2)] [(zHm.d p1)]) (fun p => zAx (zBF fuel) p1 depth3 p.1 p.2.1 p.2.2 = some o22) (fun p => p.1) (fuel, n15, 0) l23 (zBO (by simp)) ?_
  rintro ⟨k24, left20, i21⟩ l23
  try dsimp only at l23 ⊢
  cases k24 with
  | zero =>
   rw [zAx] at l23; cases l23
  | succ k25 =>
   rw [zAx] at l23
   refine zAF <| cut 42 0 [(1, .int .i64 left20), (2, .int .i64 depth3), (3, .mptr 0 0), (7, .int .i64 i21), (29, .bool ((ltI ((i21 : Nat) : Int) (p1.L.length : Int)) && (leI 0 left20)))] [(zHm.d p1)] ?_ ?_
   ·rcases tf (ltI ((i21 : Nat) : Int) (p1.L.length : Int)) with g26 | g26
    ·have c27 := ltT g26
     refine zCg 0 3 rfl rfl rfl fun f28 => ?_
     rw [List.length_map] at f28
     refine st ?_
     simp [g26]
    have c29 := ltF g26
    refine zCg 0 3 rfl rfl rfl fun f30 => ?_
    rw [List.length_map] at f30
    refine st ?_
    simp [g26]
   rcases sp l23 with ⟨g31, l23⟩ | ⟨g31, l23⟩
   ·obtain ⟨g32, g33⟩ := andT g31
    have c34 := ltT g32
    have c36 := leT g33
    refine zGU rfl g31 <| zCg 0 3 rfl rfl rfl fun f35 => ?_
    rw [List.length_map] at f35
    refine zAG <| zAd <| zAF <| zAL ?_
    obtain ⟨x37, q38, l23⟩ := bs l23
    obtain ⟨n39, q40, l23⟩ := bs l23
    obtain ⟨q41, q42⟩ := zFI q40
    try simp at q41
    try simp at q42
    have c43 := q41; simp only [Rng, inR] at c43
    obtain ⟨v44, q45, l23⟩ := bs l23
    refine last 42 0 [(1, .int .i64 v44), (2, .int .i64 depth3), (3, .mptr 0 0), (7, .int .i64 i21)] [(zHm.d p1)] ?_ fun zz hs => ?_
    ·refine st ?_
     simp [q38, q41, q42]
     have r47 := zHY x37 left20 n39 v44 q45
     try simp [q38, q41, q42] at r47
     refine zAD r47 (by simp) rfl ?_
     simp [q38, q41, q42]
    refine zEo <| zCL ?_ hs
    have q46 : Rng .i64 (((i21 : Nat) : Int) + 1) := by simp only [Rng, inR]; omega
    try simp at q46
    refine last 42 0 [(1, .int .i64 v44), (2, .int .i64 depth3), (3, .mptr 0 0), (7, .int .i64 ((i21 + 1 : Nat) : Int))] [(zHm.d p1)] (st (by simp [q46])) fun zz hs => ?_
    exact ⟨(k25, v44, i21 + 1), hs, l23, by simp⟩
   refine zGV rfl g31 <| zBA <| zAX ?_
   have q48 := Option.some.inj l23
   have q48 := q48.symm
   refine zAX <| zBC <| zCL (t := mkS 42 0 [(1, .int .i64 o22)] [(zHm.d p1)]) ?_ (zBO (by simp [q48]))
   refine cutA 42 0 [(6, .int .i64 o22)] [(zHm.d p1)] <| zAB ?_
   obtain rfl := oi h
   simp
theorem ref20_vars_ok (fuel : Nat) : (∀ (l1 : (List (List UInt8))) (p2 : zHm) (r : (List (List UInt8))) (_ : zBK fuel l1 p2 = some r), Pure Tryz.prog 50 [.sl (l1.map cS), .agg [.int .i64 p2.Op, .int .i64 p2.N, .str p2.S, .sl (p2.L.map zHm.c)]] (.sl (r.map cS))) := by
 induction fuel with
 | zero => intro l1 p2 r h; rw [zBK] at h; cases h
 | succ fuel ih_ref20_vars =>
  intro l1 p2 r h
  rw [zBK] at h
  refine zAC Tryz.func50 (by rfl) (by rfl) (by simp) (by simp) (by simp) <| cutA 31 0 [(0, .sl (l1.map cS)), (3, .mptr 0 0)] [(zHm.d p2)] <| zAF <| cutA 31 0 [(0, .sl (l1.map cS)), (3, .mptr 0 0), (8, .bool (eqI p2.Op 2))] [(zHm.d p2)] <| spc h rfl (fun g3 h => ?_) fun g3 h => ?_
  ·obtain ⟨l5, q6, h⟩ := bs h
   obtain ⟨q7, q8⟩ := app_ok q6
   try simp at q7
   obtain ⟨l9, q10, h⟩ := bs h
   obtain ⟨q11, q12⟩ := app_ok q10
   try simp [q8] at q11
   refine cut 31 0 [(4, .osl ⟨1, 9⟩ (l9.map cS))] [(zHm.d p2)] ?_ ?_
   ·refine zA4 [998] [7] mixed (n := 31) rfl (by decide) (by decide) ?_
    simp [q7, q8, q11, q12]
   refine zAB <| zAH ?_
   obtain rfl := oi h
   simp
  refine zAG <| zAd <| zAF <| cutA 31 0 [(0, .sl (l1.map cS)), (3, .mptr 0 0), (5, .int .i64 0)] [(zHm.d p2)] <| zAL ?_
  obtain ⟨o17, l18, h⟩ := bs h
  refine zBq (fun p : Nat × (List (List UInt8)) × Nat => mkS 31 0 [(0, .sl (p.2.1.map cS)), (3, .mptr 0 0), (5, .int .i64 p.2.2)] [(zHm.d p2)]) (fun p => zBE (zBK fuel) p2 p.1 p.2.1 p.2.2 = some o17) (fun p => p.1) (fuel, l1, 0) l18 (zBO (by simp)) ?_
  rintro ⟨k19, l15, i16⟩ l18
  try dsimp only at l18 ⊢
  cases k19 with
  | zero =>
   rw [zBE] at l18; cases l18
  | succ k20 =>
   rw [zBE] at l18
   refine zAF <| cutA 31 0 [(0, .sl (l15.map cS)), (3, .mptr 0 0), (5, .int .i64 i16), (20, .bool (ltI ((i16 : Nat) : Int) (p2.L.length : Int)))] [(zHm.d p2)] <| spc l18 rfl (fun g21 l18 => ?_) fun g21 l18 => ?_
   ·have c22 := ltT g21
    refine zCg 0 3 rfl rfl rfl fun f23 => ?_
    rw [List.length_map] at f23
    refine zAG <| zAd <| zAF <| zAL ?_
    obtain ⟨x24, q25, l18⟩ := bs l18
    obtain ⟨v26, q27, l18⟩ := bs l18
    refine last 31 0 [(0, .sl (v26.map cS)), (3, .mptr 0 0), (5, .int .i64 i16)] [(zHm.d p2)] ?_ fun zz hs => ?_
    ·refine st ?_
     simp [q25]
     have r29 := ih_ref20_vars l15 x24 v26 q27
     try simp [q25] at r29
     refine zAD r29 (by simp) rfl ?_
     simp [q25]
    refine zEo <| zCL ?_ hs
    have q28 : Rng .i64 (((i16 : Nat) : Int) + 1) := by simp only [Rng, inR]; omega
    try simp at q28
    refine last 31 0 [(0, .sl (v26.map cS)), (3, .mptr 0 0), (5, .int .i64 ((i16 + 1 : Nat) : Int))] [(zHm.d p2)] (st (by simp [q28])) fun zz hs => ?_
    exact ⟨(k20, v26, i16 + 1), hs, l18, by simp⟩
   have c30 := ltF g21
   refine zCg 0 3 rfl rfl rfl fun f31 => ?_
   rw [List.length_map] at f31
   refine zBA <| zAX ?_
   have q32 := Option.some.inj l18
   have q32 := q32.symm
   refine zAX <| zBC <| zCL (t := mkS 31 0 [(0, .sl (o17.map cS))] [(zHm.d p2)]) ?_ (zBO (by simp [q32]))
   refine cutA 31 0 [(4, .sl (o17.map cS))] [(zHm.d p2)] <| zAB ?_
   obtain rfl := oi h
   simp
theorem ref20_Vars_ok (fuel : Nat) (p1 : zHm) (r : (List (List UInt8))) (h : zDA fuel p1 = some r) : Pure Tryz.prog 28 [.agg [.int .i64 p1.Op, .int .i64 p1.N, .str p1.S, .sl (p1.L.map zHm.c)]] (.sl (r.map cS)) := by
 rw [zDA] at h
 refine zAC Tryz.func28 (by rfl) (by rfl) (by simp) (by simp) (by simp) <| cutA 5 0 [(1, .mptr 0 0)] [(zHm.d p1)] ?_
 obtain ⟨v2, q3, h⟩ := bs h
 refine cut 5 0 [(2, .sl (v2.map cS))] [(zHm.d p1)] ?_ ?_
 ·refine st ?_
  simp
  have r4 := ref20_vars_ok fuel ([] : List (List UInt8)) p1 v2 q3
  try simp at r4
  refine zAD r4 (by simp) rfl ?_
  simp
 refine zAB ?_
 obtain rfl := oi h
 simp
theorem zDd (fuel : Nat) (p1 : zHm) (r : Bool) (h : zCH fuel p1 = some r) : Pure Tryz.prog 9 [.agg [.int .i64 p1.Op, .int .i64 p1.N, .str p1.S, .sl (p1.L.map zHm.c)]] (.bool r) := by
 rw [zCH] at h
 refine zAC Tryz.func9 (by rfl) (by rfl) (by simp) (by simp) (by simp) <| cutA 25 0 [(1, .mptr 0 0)] [(zHm.d p1)] <| zAF ?_
 obtain ⟨v2, q3, h⟩ := bs h
 refine cut 25 0 [(1, .mptr 0 0), (7, .bool (ltI v2 0))] [(zHm.d p1)] ?_ ?_
 ·refine st ?_
  simp
  have r35 := zHL fuel p1 20000 400 v2 q3
  try simp at r35
  refine zAD r35 (by simp) rfl ?_
  simp
 refine spc h rfl (fun g4 h => ?_) fun g4 h => ?_
 ·have c5 := ltT g4
  refine cutA 25 0 [(2, .bool false)] [(zHm.d p1)] <| zAB <| zAH ?_
  obtain rfl := oi h
  simp
 have c6 := ltF g4
 refine zAG <| zAd ?_
 obtain ⟨v7, q8, h⟩ := bs h
 refine cut 25 0 [(3, .sl (v7.map cS))] [(zHm.d p1)] ?_ ?_
 ·refine st ?_
  simp
  have r34 := ref20_Vars_ok fuel p1 v7 q8
  try simp at r34
  refine zAD r34 (by simp) rfl ?_
  simp
 refine zAF <| cutA 25 0 [(3, .sl (v7.map cS)), (4, .int .i64 0)] [(zHm.d p1)] <| zAL ?_
 obtain ⟨o11, l12, h⟩ := bs h
 refine zBq (fun p : Nat × Nat => mkS 25 0 [(3, .sl (v7.map cS)), (4, .int .i64 p.2)] [(zHm.d p1)]) (fun p => zA6 fuel v7 p.1 p.2 = some o11) (fun p => p.1) (fuel, 0) l12 (zBO (by simp)) ?_
 rintro ⟨k13, i9⟩ l12
 try dsimp only at l12 ⊢
 cases k13 with
 | zero =>
  rw [zA6] at l12; cases l12
 | succ k14 =>
  rw [zA6] at l12
  refine zAF <| cutA 25 0 [(3, .sl (v7.map cS)), (4, .int .i64 i9), (13, .bool (ltI ((i9 : Nat) : Int) (v7.length : Int)))] [(zHm.d p1)] <| spc l12 rfl (fun g15 l12 => ?_) fun g15 l12 => ?_
  ·have c16 := ltT g15
   refine zER 3 rfl fun f17 => ?_
   rw [List.length_map] at f17
   refine zAG <| zAd <| zAF <| zAL ?_
   obtain ⟨l18, q19, l12⟩ := bs l12
   obtain ⟨q20, q21⟩ := subC_ok q19
   try simp at q20
   try simp at q21
   obtain ⟨x22, q23, l12⟩ := bs l12
   obtain ⟨v24, q25, l12⟩ := bs l12
   refine cut 25 0 [(3, .sl (v7.map cS)), (4, .int .i64 i9), (24, .bool (leI 0 v24))] [(zHm.d p1)] ?_ ?_
   ·refine zB5 [] mixed (n := 25) rfl (by decide) ?_
    simp [q20, q21, q23]
    have r30 := zFR fuel l18 x22 v24 q25
    try simp [q20, q21, q23] at r30
    refine callD r30 (by simp) rfl ?_
    simp [q20, q21, q23]
   refine spc l12 rfl (fun g26 l12 => ?_) fun g26 l12 => ?_
   ·have c27 := leT g26
    refine cutA 25 0 [(2, .bool false)] [(zHm.d p1)] <| zAB <| zAY <| zAH ?_
    replace h := retL l12 h
    refine zAH <| zAY <| zAH ?_
    obtain rfl := oi h
    simp
   have c28 := leF g26
   refine zAG <| zEo <| zAd ?_
   have q29 : Rng .i64 (((i9 : Nat) : Int) + 1) := by simp only [Rng, inR]; omega
   try simp at q29
   refine last 25 0 [(3, .sl (v7.map cS)), (4, .int .i64 ((i9 + 1 : Nat) : Int))] [(zHm.d p1)] (st (by simp [q29])) fun zz hs => ?_
   exact ⟨(k14, i9 + 1), hs, l12, by simp⟩
  have c31 := ltF g15
  refine zER 3 rfl fun f32 => ?_
  rw [List.length_map] at f32
  refine zBA <| zAX ?_
  rcases o11 with o11 | o10
  ·cases l12
  have q33 := Sum.inr.inj (Option.some.inj l12)
  replace h := elimR h
  refine zAX <| zBC <| zCL (t := mkS 25 0 [] [(zHm.d p1)]) ?_ (zBO (by simp))
  refine cutA 25 0 [(2, .bool true)] [(zHm.d p1)] <| zAB ?_
  obtain rfl := oi h
  simp
theorem zGh (fuel : Nat) : (∀ (p1 : zHm) (q2 : zHm) (r : Bool) (_ : zBD fuel p1 q2 = some r), Pure Tryz.prog 10 [.agg [.int .i64 p1.Op, .int .i64 p1.N, .str p1.S, .sl (p1.L.map zHm.c)], .agg [.int .i64 q2.Op, .int .i64 q2.N, .str q2.S, .sl (q2.L.map zHm.c)]] (.bool r)) := by
 induction fuel with
 | zero => intro p1 q2 r h; rw [zBD] at h; cases h
 | succ fuel zGl =>
  intro p1 q2 r h
  rw [zBD] at h
  refine zAC Tryz.func10 (by rfl) (by rfl) (by simp) (by simp) (by simp) <| cutA 61 0 [(2, .mptr 0 0), (3, .mptr 1 0)] [(zHm.d p1), (zHm.d q2)] <| zAF <| cut 61 0 [(2, .mptr 0 0), (3, .mptr 1 0), (13, .bool ((eqI p1.Op 1) || (eqI p1.Op 2)))] [(zHm.d p1), (zHm.d q2)] ?_ ?_
  ·rcases tf (eqI p1.Op 1) with g3 | g3
   ·have c4 := eqT g3
    refine st ?_
    simp [g3]
   have c5 := eqF g3
   refine st ?_
   simp [g3]
  rcases sp h with ⟨g6, h⟩ | ⟨g6, h⟩
  ·refine zGU rfl g6 <| cutA 61 0 [(4, .bool true)] [(zHm.d p1), (zHm.d q2)] <| zAB <| zAH ?_
   obtain rfl := oi h
   simp
  obtain ⟨g7, g8⟩ := orF g6
  have c9 := eqF g7
  have c10 := eqF g8
  refine zGV rfl g6 <| zAG <| zAd <| zAF <| cut 61 0 [(2, .mptr 0 0), (3, .mptr 1 0), (41, .bool ((!(eqI p1.Op q2.Op)) || ((!(eqI p1.N q2.N)) || ((!(eqS p1.S q2.S)) || (!(eqI (p1.L.length : Int) (q2.L.length : Int)))))))] [(zHm.d p1), (zHm.d q2)] ?_ ?_
  ·rcases tf (!(eqI p1.Op q2.Op)) with g11 | g11
   ·have g12 := notT g11
    have c13 := eqF g12
    refine st ?_
    simp [g11]
   have g14 := notF g11
   have c15 := eqT g14
   rcases tf (!(eqI p1.N q2.N)) with g16 | g16
   ·have g17 := notT g16
    have c18 := eqF g17
    refine st ?_
    simp [g11, g16]
   have g19 := notF g16
   have c20 := eqT g19
   rcases tf (!(eqS p1.S q2.S)) with g21 | g21
   ·have g22 := notT g21
    refine st ?_
    simp [g11, g16, g21]
   have g23 := notF g21
   refine st ?_
   simp [g11, g16, g21]
  rcases sp h with ⟨g24, h⟩ | ⟨g24, h⟩
  ·refine zGU rfl g24 <| cutA 61 0 [(4, .bool false)] [(zHm.d p1), (zHm.d q2)] <| zAB <| zAH ?_
   obtain rfl := oi h
   simp
  obtain ⟨g25, g26⟩ := orF g24
  have g27 := notF g25
  have c28 := eqT g27
  obtain ⟨g29, g30⟩ := orF g26
  have g31 := notF g29
  have c32 := eqT g31
  obtain ⟨g33, g34⟩ := orF g30
  have g35 := notF g33
  have g36 := notF g34
  have c37 := eqT g36
  refine zGV rfl g24 <| zAG <| zAd <| zAF <| cutA 61 0 [(2, .mptr 0 0), (3, .mptr 1 0), (5, .int .i64 0)] [(zHm.d p1), (zHm.d q2)] <| zAL ?_
  obtain ⟨o40, l41, h⟩ := bs h
  refine zBq (fun p : Nat × Nat => mkS 61 0 [(2, .mptr 0 0), (3, .mptr 1 0), (5, .int .i64 p.2)] [(zHm.d p1), (zHm.d q2)]) (fun p => zAy (zBD fuel) p1 q2 p.1 p.2 = some o40) (fun p => p.1) (fuel, 0) l41 (zBO (by simp)) ?_
  rintro ⟨k42, i38⟩ l41
  try dsimp only at l41 ⊢
  cases k42 with
  | zero =>
   rw [zAy] at l41; cases l41
  | succ k43 =>
   rw [zAy] at l41
   refine zAF <| cutA 61 0 [(2, .mptr 0 0), (3, .mptr 1 0), (5, .int .i64 i38), (46, .bool (ltI ((i38 : Nat) : Int) (p1.L.length : Int)))] [(zHm.d p1), (zHm.d q2)] <| spc l41 rfl (fun g44 l41 => ?_) fun g44 l41 => ?_
   ·have c45 := ltT g44
    refine zCg 0 3 rfl rfl rfl fun f46 => ?_
    rw [List.length_map] at f46
    refine zAG <| zAd <| zAF <| zAL ?_
    obtain ⟨x47, q48, l41⟩ := bs l41
    obtain ⟨x49, q50, l41⟩ := bs l41
    obtain ⟨v51, q52, l41⟩ := bs l41
    refine cut 61 0 [(2, .mptr 0 0), (3, .mptr 1 0), (5, .int .i64 i38), (60, .bool (!v51))] [(zHm.d p1), (zHm.d q2)] ?_ ?_
    ·refine zB5 [] mixed (n := 61) rfl (by decide) ?_
     simp [q48, q50]
     have r57 := zGl x47 x49 v51 q52
     try simp [q48, q50] at r57
     refine callD r57 (by simp) rfl ?_
     simp [q48, q50]
    refine spc l41 rfl (fun g53 l41 => ?_) fun g53 l41 => ?_
    ·have g54 := notT g53
     refine cutA 61 0 [(4, .bool false)] [(zHm.d p1), (zHm.d q2)] <| zAB <| zAY <| zAH ?_
     replace h := retL l41 h
     refine zAH <| zAY <| zAH ?_
     obtain rfl := oi h
     simp
    have g55 := notF g53
    refine zAG <| zEo <| zAd ?_
    have q56 : Rng .i64 (((i38 : Nat) : Int) + 1) := by simp only [Rng, inR]; omega
    try simp at q56
    refine last 61 0 [(2, .mptr 0 0), (3, .mptr 1 0), (5, .int .i64 ((i38 + 1 : Nat) : Int))] [(zHm.d p1), (zHm.d q2)] (st (by simp [q56])) fun zz hs => ?_
    exact ⟨(k43, i38 + 1), hs, l41, by simp⟩
   have c58 := ltF g44
   refine zCg 0 3 rfl rfl rfl fun f59 => ?_
   rw [List.length_map] at f59
   refine zBA <| zAX ?_
   rcases o40 with o40 | o39
   ·cases l41
   have q60 := Sum.inr.inj (Option.some.inj l41)
   replace h := elimR h
   refine zAX <| zBC <| zCL (t := mkS 61 0 [] [(zHm.d p1), (zHm.d q2)]) ?_ (zBO (by simp))
   refine cutA 61 0 [(4, .bool true)] [(zHm.d p1), (zHm.d q2)] <| zAB ?_
   obtain rfl := oi h
   simp
theorem zAN (n1 : Bool) (s2 : Bool) (names3 : Bool) (w4 : zHl) (r : Bool) (h : zAn n1 s2 names3 w4 = some r) : Raw Tryz.prog 121 [.bool n1, .bool s2, .bool names3, .mptr 0 0] [[.int .i64 w4.Op, .int .i64 w4.N, .str w4.S, .sl (w4.Names.map cS), .sl (w4.L.map zHl.c)]] (.bool r) [[.int .i64 w4.Op, .int .i64 w4.N, .str w4.S, .sl (w4.Names.map cS), .sl (w4.L.map zHl.c)]] := by
 rw [zAn] at h
 refine zBh Tryz.func121 (by rfl) (by rfl) (by simp) (by simp) <| cutA 31 1 [(0, .bool n1), (1, .bool s2), (2, .bool names3), (3, .mptr 0 0)] [(zHl.d w4)] <| cut 31 1 [(7, .bool (if n1 then if s2 then names3 || (eqI (w4.Names.length : Int) 0) else (eqS w4.S ([] : List UInt8)) && (names3 || (eqI (w4.Names.length : Int) 0)) else (eqI w4.N 0) && (if s2 then names3 || (eqI (w4.Names.length : Int) 0) else (eqS w4.S ([] : List UInt8)) && (names3 || (eqI (w4.Names.length : Int) 0)))))] [(zHl.d w4)] ?_ ?_
 ·rcases tf (n1) with g5 | g5
  ·rcases tf (s2) with g6 | g6
   ·rcases tf (names3) with g7 | g7
    ·refine st ?_
     simp [g5, g6, g7]
    refine st ?_
    simp [g5, g6, g7]
   rcases tf (eqS w4.S ([] : List UInt8)) with g8 | g8
   ·rcases tf (names3) with g9 | g9
    ·refine st ?_
     simp [g5, g6, g8, g9]
    refine st ?_
    simp [g5, g6, g8, g9]
   refine st ?_
   simp [g5, g6, g8]
  rcases tf (eqI w4.N 0) with g10 | g10
  ·have c11 := eqT g10
   rcases tf (s2) with g12 | g12
   ·rcases tf (names3) with g13 | g13
    ·refine st ?_
     simp [g5, g10, g12, g13]
    refine st ?_
    simp [g5, g10, g12, g13]
   rcases tf (eqS w4.S ([] : List UInt8)) with g14 | g14
   ·rcases tf (names3) with g15 | g15
    ·refine st ?_
     simp [g5, g10, g12, g14, g15]
    refine st ?_
    simp [g5, g10, g12, g14, g15]
   refine st ?_
   simp [g5, g10, g12, g14]
  have c16 := eqF g10
  refine st ?_
  simp [g5, g10]
 refine zAB ?_
 obtain rfl := oi h
 simp
theorem zG8 (v1 : zHl) (r : Bool) (h : zDI v1 = some r) : Pure Tryz.prog 111 [.agg [.int .i64 v1.Op, .int .i64 v1.N, .str v1.S, .sl (v1.Names.map cS), .sl (v1.L.map zHl.c)]] (.bool r) := by
 rw [zDI] at h
 refine zAC Tryz.func111 (by rfl) (by rfl) (by simp) (by simp) (by simp) <| cutA 18 0 [(1, .mptr 0 0)] [(zHl.d v1)] <| cut 18 0 [(2, .bool ((eqI v1.Op 3) && ((eqI (v1.Names.length : Int) 0) && (ltI 0 (v1.L.length : Int)))))] [(zHl.d v1)] ?_ ?_
 ·rcases tf (eqI v1.Op 3) with g2 | g2
  ·have c3 := eqT g2
   rcases tf (eqI (v1.Names.length : Int) 0) with g4 | g4
   ·have c5 := eqT g4
    refine st ?_
    simp [g2, g4]
   have c6 := eqF g4
   refine st ?_
   simp [g2, g4]
  have c7 := eqF g2
  refine st ?_
  simp [g2]
 refine zAB ?_
 obtain rfl := oi h
 simp
theorem zD9 (fuel : Nat) (s1 : (List UInt8)) (r : Bool) (h : zBp fuel s1 = some r) : Pure Tryz.prog 67 [.str s1] (.bool r) := by
 rw [zBp] at h
 refine zAC Tryz.func67 (by rfl) (by rfl) (by simp) (by simp) (by simp) <| cutA 23 0 [(0, .str s1)] [] <| zAF <| cut 23 0 [(0, .str s1), (11, .bool ((eqS s1 ([] : List UInt8)) || (ltI 48 (s1.length : Int))))] [] ?_ ?_
 ·rcases tf (eqS s1 ([] : List UInt8)) with g2 | g2
  ·refine st ?_
   simp [g2]
  refine st ?_
  simp [g2]
 rcases sp h with ⟨g3, h⟩ | ⟨g3, h⟩
 ·refine zGU rfl g3 <| cutA 23 0 [(2, .bool false)] [] <| zAB <| zAH ?_
  obtain rfl := oi h
  simp
 obtain ⟨g4, g5⟩ := orF g3
 have c6 := ltF g5
 refine zGV rfl g3 <| factS 0 rfl fun f7 => ?_
 refine zAG <| zAd <| zAF ?_
 obtain ⟨l8, q9, h⟩ := bs h
 obtain ⟨q10, q11⟩ := bytesC_ok q9
 refine cut 23 0 [(13, .sl (l8.map cU)), (14, .int .i64 l8.length), (15, .int .i64 0)] [] (st (by simp [q10, q11])) <| zAL ?_
 obtain ⟨o14, l15, h⟩ := bs h
 refine zBq (fun p : Nat × Nat => mkS 23 0 [(13, .sl (l8.map cU)), (14, .int .i64 l8.length), (15, .int .i64 p.2)] []) (fun p => zAu l8 p.1 p.2 = some o14) (fun p => p.1) (fuel, 0) l15 (zBO (by simp)) ?_
 rintro ⟨k16, i12⟩ l15
 try dsimp only at l15 ⊢
 cases k16 with
 | zero =>
  rw [zAu] at l15; cases l15
 | succ k17 =>
  rw [zAu] at l15
  refine cutA 23 0 [(13, .sl (l8.map cU)), (14, .int .i64 l8.length), (15, .int .i64 i12), (16, .bool (ltI ((i12 : Nat) : Int) (l8.length : Int)))] [] <| zAF <| spc l15 rfl (fun g18 l15 => ?_) fun g18 l15 => ?_
  ·have c19 := ltT g18
   refine zER 13 rfl fun f20 => ?_
   rw [List.length_map] at f20
   refine zAG <| zAd <| zAF <| zAL ?_
   obtain ⟨x21, q22, l15⟩ := bs l15
   refine cut 23 0 [(4, .int .u8 x21.toNat), (13, .sl (l8.map cU)), (14, .int .i64 l8.length), (15, .int .i64 i12)] [] (st (by simp [q22])) ?_
   obtain ⟨v23, q24, l15⟩ := bs l15
   refine cut 23 0 [(13, .sl (l8.map cU)), (14, .int .i64 l8.length), (15, .int .i64 i12), (21, .bool (eqI v23 0))] [] ?_ ?_
   ·refine st ?_
    simp
    have r29 := zFG x21 v23 q24
    try simp at r29
    refine zAD r29 (by simp) rfl ?_
    simp
   refine spc l15 rfl (fun g25 l15 => ?_) fun g25 l15 => ?_
   ·have c26 := eqT g25
    refine cutA 23 0 [(2, .bool false)] [] <| zAB <| zAY <| zAH ?_
    replace h := retL l15 h
    refine zAH <| zAY <| zAH ?_
    obtain rfl := oi h
    simp
   have c27 := eqF g25
   refine zAG <| zEo <| zAd ?_
   have q28 : Rng .i64 (((i12 : Nat) : Int) + 1) := by simp only [Rng, inR]; omega
   try simp at q28
   refine last 23 0 [(13, .sl (l8.map cU)), (14, .int .i64 l8.length), (15, .int .i64 ((i12 + 1 : Nat) : Int))] [] (st (by simp [q28])) fun zz hs => ?_
   exact ⟨(k17, i12 + 1), hs, l15, by simp⟩
  have c30 := ltF g18
  refine zER 13 rfl fun f31 => ?_
  rw [List.length_map] at f31
  refine zBA <| zAX ?_
  rcases o14 with o14 | o13
  ·cases l15
  have q32 := Sum.inr.inj (Option.some.inj l15)
  replace h := elimR h
  refine zAX <| zBC <| zCL (t := mkS 23 0 [] []) ?_ (zBO (by simp))
  refine cutA 23 0 [(2, .bool true)] [] <| zAB ?_
  obtain rfl := oi h
  simp
theorem zDQ (fuel : Nat) (l1 : (List (List UInt8))) (r : Bool) (h : zBm fuel l1 = some r) : Pure Tryz.prog 84 [.sl (l1.map cS)] (.bool r) := by
 rw [zBm] at h
 refine zAC Tryz.func84 (by rfl) (by rfl) (by simp) (by simp) (by simp) <| cutA 20 0 [(0, .sl (l1.map cS))] [] <| zAF <| cutA 20 0 [(0, .sl (l1.map cS)), (3, .int .i64 1)] [] <| zAL ?_
 obtain ⟨o4, l5, h⟩ := bs h
 refine zBq (fun p : Nat × Nat => mkS 20 0 [(0, .sl (l1.map cS)), (3, .int .i64 p.2)] []) (fun p => zAl l1 p.1 p.2 = some o4) (fun p => p.1) (fuel, 1) l5 (zBO (by simp)) ?_
 rintro ⟨k6, i2⟩ l5
 try dsimp only at l5 ⊢
 cases k6 with
 | zero =>
  rw [zAl] at l5; cases l5
 | succ k7 =>
  rw [zAl] at l5
  refine zAF <| cutA 20 0 [(0, .sl (l1.map cS)), (3, .int .i64 i2), (7, .bool (ltI ((i2 : Nat) : Int) (l1.length : Int)))] [] <| spc l5 rfl (fun g8 l5 => ?_) fun g8 l5 => ?_
  ·have c9 := ltT g8
   refine zER 0 rfl fun f10 => ?_
   rw [List.length_map] at f10
   refine zAG <| zAd <| zAF <| zAL ?_
   have q11 : Rng .i64 (((i2 : Nat) : Int) - 1) := by simp only [Rng, inR]; omega
   try simp at q11
   obtain ⟨x12, q13, l5⟩ := bs l5
   obtain ⟨q14, q15⟩ := idx_ok q13
   try simp at q14
   try simp at q15
   obtain ⟨x16, q17, l5⟩ := bs l5
   refine cut 20 0 [(0, .sl (l1.map cS)), (3, .int .i64 i2), (19, .bool (!(ltS x12 x16)))] [] ?_ ?_
   ·refine zB5 [] mixed (n := 20) rfl (by decide) ?_
    simp [q11, q14, q15, q17]
   refine spc l5 rfl (fun g18 l5 => ?_) fun g18 l5 => ?_
   ·have g19 := notT g18
    refine cutA 20 0 [(2, .bool false)] [] <| zAB <| zAY <| zAH ?_
    replace h := retL l5 h
    refine zAH <| zAY <| zAH ?_
    obtain rfl := oi h
    simp
   have g20 := notF g18
   refine zAG <| zEo <| zAd ?_
   have q21 : Rng .i64 (((i2 : Nat) : Int) + 1) := by simp only [Rng, inR]; omega
   try simp at q21
   refine last 20 0 [(0, .sl (l1.map cS)), (3, .int .i64 ((i2 + 1 : Nat) : Int))] [] (st (by simp [q21])) fun zz hs => ?_
   exact ⟨(k7, i2 + 1), hs, l5, by simp⟩
  have c22 := ltF g8
  refine zER 0 rfl fun f23 => ?_
  rw [List.length_map] at f23
  refine zBA <| zAX ?_
  rcases o4 with o4 | o3
  ·cases l5
  have q24 := Sum.inr.inj (Option.some.inj l5)
  replace h := elimR h
  refine zAX <| zBC <| zCL (t := mkS 20 0 [] []) ?_ (zBO (by simp))
  refine cutA 20 0 [(2, .bool true)] [] <| zAB ?_
  obtain rfl := oi h
  simp
theorem zFY (fuel : Nat) (s1 : (List UInt8)) (r : Bool) (h : zCR fuel s1 = some r) : Pure Tryz.prog 146 [.str s1] (.bool r) := by
 rw [zCR] at h
 refine zAC Tryz.func146 (by rfl) (by rfl) (by simp) (by simp) (by simp) <| cutA 6 0 [(0, .str s1)] [] ?_
 obtain ⟨v2, q3, h⟩ := bs h
 refine cut 6 0 [(2, .bool (!v2))] [] ?_ ?_
 ·refine st ?_
  simp
  have r4 := zD9 fuel s1 v2 q3
  try simp at r4
  refine zAD r4 (by simp) rfl ?_
  simp
 refine zAB ?_
 obtain rfl := oi h
 simp
theorem zCJ (fuel : Nat) (s1 : (List (List UInt8))) (r : Int) (h : zAh fuel s1 = some r) : Pure Tryz.prog 44 [.sl (s1.map cS), .fn (.func 146) [] []] (.int .i64 r) := by
 rw [zAh] at h
 refine zAC Tryz.func44 (by rfl) (by rfl) (by simp) (by simp) (by simp) <| cutA 19 0 [(0, .sl (s1.map cS)), (1, .fn (.func 146) [] [])] [] <| zAF <| cutA 19 0 [(0, .sl (s1.map cS)), (1, .fn (.func 146) [] []), (7, .int .i64 s1.length), (8, .int .i64 0)] [] <| zAL ?_
 obtain ⟨o4, l5, h⟩ := bs h
 refine zBq (fun p : Nat × Nat => mkS 19 0 [(0, .sl (s1.map cS)), (1, .fn (.func 146) [] []), (7, .int .i64 s1.length), (8, .int .i64 p.2)] []) (fun p => zAJ fuel s1 p.1 p.2 = some o4) (fun p => p.1) (fuel, 0) l5 (zBO (by simp)) ?_
 rintro ⟨k6, i2⟩ l5
 try dsimp only at l5 ⊢
 cases k6 with
 | zero =>
  rw [zAJ] at l5; cases l5
 | succ k7 =>
  rw [zAJ] at l5
  refine cutA 19 0 [(0, .sl (s1.map cS)), (1, .fn (.func 146) [] []), (7, .int .i64 s1.length), (8, .int .i64 i2), (9, .bool (ltI ((i2 : Nat) : Int) (s1.length : Int)))] [] <| zAF <| spc l5 rfl (fun g8 l5 => ?_) fun g8 l5 => ?_
  ·have c9 := ltT g8
   refine zER 0 rfl fun f10 => ?_
   rw [List.length_map] at f10
   refine zAG <| zAd <| zAF <| zAL <| cutA 19 0 [(0, .sl (s1.map cS)), (1, .fn (.func 146) [] []), (5, .int .i64 i2), (7, .int .i64 s1.length), (8, .int .i64 i2)] [] ?_
   obtain ⟨x11, q12, l5⟩ := bs l5
   obtain ⟨v13, q14, l5⟩ := bs l5
   refine cut 19 0 [(0, .sl (s1.map cS)), (1, .fn (.func 146) [] []), (5, .int .i64 i2), (7, .int .i64 s1.length), (8, .int .i64 i2), (16, .bool v13)] [] ?_ ?_
   ·refine st ?_
    simp [q12]
    have r17 := zFY fuel x11 v13 q14
    try simp [q12] at r17
    refine zAD r17 (by simp) rfl ?_
    simp [q12]
   refine spc l5 rfl (fun g15 l5 => ?_) fun g15 l5 => ?_
   ·refine cutA 19 0 [(4, .int .i64 i2)] [] <| zAB <| zAY <| zAH ?_
    replace h := retL l5 h
    refine zAH <| zAY <| zAH ?_
    obtain rfl := oi h
    simp
   refine zAG <| zEo <| zAd ?_
   have q16 : Rng .i64 (((i2 : Nat) : Int) + 1) := by simp only [Rng, inR]; omega
   try simp at q16
   refine last 19 0 [(0, .sl (s1.map cS)), (1, .fn (.func 146) [] []), (7, .int .i64 s1.length), (8, .int .i64 ((i2 + 1 : Nat) : Int))] [] (st (by simp [q16])) fun zz hs => ?_
   exact ⟨(k7, i2 + 1), hs, l5, by simp⟩
  have c18 := ltF g8
  refine zER 0 rfl fun f19 => ?_
  rw [List.length_map] at f19
  refine zBA <| zAX ?_
  rcases o4 with o4 | o3
  ·cases l5
  have q20 := Sum.inr.inj (Option.some.inj l5)
  replace h := elimR h
  refine zAX <| zBC <| zCL (t := mkS 19 0 [] []) ?_ (zBO (by simp))
  refine cutA 19 0 [(4, .int .i64 (-1))] [] <| zAB ?_
  obtain rfl := oi h
  simp
theorem zB1 (fuel : Nat) (s1 : (List (List UInt8))) (r : Bool) (h : zAV fuel s1 = some r) : Pure Tryz.prog 23 [.sl (s1.map cS), .fn (.func 146) [] []] (.bool r) := by
 rw [zAV] at h
 refine zAC Tryz.func23 (by rfl) (by rfl) (by simp) (by simp) (by simp) <| cutA 9 0 [(0, .sl (s1.map cS)), (1, .fn (.func 146) [] [])] [] ?_
 obtain ⟨v2, q3, h⟩ := bs h
 refine cut 9 0 [(4, .bool (leI 0 v2))] [] ?_ ?_
 ·refine st ?_
  simp
  have r4 := zCJ fuel s1 v2 q3
  try simp at r4
  refine zAD r4 (by simp) rfl ?_
  simp
 refine zAB ?_
 obtain rfl := oi h
 simp
theorem zEW (fuel : Nat) (l1 : (List (List UInt8))) (r : Bool) (h : zCS fuel l1 = some r) : Pure Tryz.prog 122 [.sl (l1.map cS)] (.bool r) := by
 rw [zCS] at h
 refine zAC Tryz.func122 (by rfl) (by rfl) (by simp) (by simp) (by simp) <| cutA 15 0 [(0, .sl (l1.map cS))] [] ?_
 obtain ⟨b12, q13, h⟩ := bs h
 refine cut 15 0 [(2, .bool b12)] [] ?_ ?_
 ·rcases sp q13 with ⟨g2, q13⟩ | ⟨g2, q13⟩
  ·have c3 := leT g2
   refine zER 0 rfl fun f4 => ?_
   rw [List.length_map] at f4
   obtain ⟨v5, q6, q13⟩ := bs q13
   rcases sp q13 with ⟨g7, q13⟩ | ⟨g7, q13⟩
   ·obtain ⟨v8, q9, q13⟩ := bs q13
    obtain rfl := oi q13
    refine st ?_
    simp [g2, g7]
    have r14 := zDQ fuel l1 v5 q6
    try simp [g2, g7] at r14
    refine zAD r14 (by simp) rfl ?_
    simp [g2, g7]
    have r15 := zB1 fuel l1 v8 q9
    try simp [g2, g7] at r15
    refine zAD r15 (by simp) rfl ?_
    simp [g2, g7]
   obtain rfl := oi q13
   refine st ?_
   simp [g2, g7]
   have r16 := zDQ fuel l1 v5 q6
   try simp [g2, g7] at r16
   refine zAD r16 (by simp) rfl ?_
   simp [g2, g7]
  have c10 := leF g2
  refine zER 0 rfl fun f11 => ?_
  rw [List.length_map] at f11
  obtain rfl := oi q13
  refine st ?_
  simp [g2]
 refine zAB ?_
 obtain rfl := oi h
 simp
theorem zGd (v1 : zHl) (r : Bool) (h : zCv v1 = some r) : Pure Tryz.prog 112 [.agg [.int .i64 v1.Op, .int .i64 v1.N, .str v1.S, .sl (v1.Names.map cS), .sl (v1.L.map zHl.c)]] (.bool r) := by
 rw [zCv] at h
 refine zAC Tryz.func112 (by rfl) (by rfl) (by simp) (by simp) (by simp) <| cutA 11 0 [(1, .mptr 0 0)] [(zHl.d v1)] <| cut 11 0 [(2, .bool ((eqI v1.Op 4) && (eqS v1.S ([] : List UInt8))))] [(zHl.d v1)] ?_ ?_
 ·rcases tf (eqI v1.Op 4) with g2 | g2
  ·have c3 := eqT g2
   refine st ?_
   simp [g2]
  have c4 := eqF g2
  refine st ?_
  simp [g2]
 refine zAB ?_
 obtain rfl := oi h
 simp
theorem value_node_ok (fuel : Nat) (v1 : zHl) (r : Bool) (h : zC8 fuel v1 = some r) : Pure Tryz.prog 75 [.agg [.int .i64 v1.Op, .int .i64 v1.N, .str v1.S, .sl (v1.Names.map cS), .sl (v1.L.map zHl.c)]] (.bool r) := by
 rw [zC8] at h
 refine zAC Tryz.func75 (by rfl) (by rfl) (by simp) (by simp) (by simp) <| cutA 127 0 [(1, .mptr 0 0)] [(zHl.d v1)] <| cutA 127 0 [(1, .mptr 0 0), (3, .fn (.func 121) [] [.mptr 0 0])] [(zHl.d v1)] <| zAF <| cutA 127 0 [(1, .mptr 0 0), (3, .fn (.func 121) [] [.mptr 0 0]), (6, .int .i64 v1.Op)] [(zHl.d v1)] <| zAL <| cutA 127 0 [(1, .mptr 0 0), (3, .fn (.func 121) [] [.mptr 0 0]), (6, .int .i64 v1.Op), (7, .bool (eqI v1.Op 1))] [(zHl.d v1)] ?_
 refine spc h rfl (fun g2 h => ?_) fun g2 h => ?_
 ·obtain ⟨b13, q14, h⟩ := bs h
  refine cut 127 0 [(2, .bool b13)] [(zHl.d v1)] ?_ ?_
  ·obtain ⟨v4, q5, q14⟩ := bs q14
   rcases sp q14 with ⟨g6, q14⟩ | ⟨g6, q14⟩
   ·rcases sp q14 with ⟨g7, q14⟩ | ⟨g7, q14⟩
    ·have c8 := eqT g7
     rcases sp q14 with ⟨g9, q14⟩ | ⟨g9, q14⟩
     ·have c10 := leT g9
      obtain rfl := oi q14
      refine st ?_
      simp [g6, g7, g9]
      have r15 := (zAN true false false v1 v4 q5).frame [0] [[.int .i64 v1.Op, .int .i64 v1.N, .str v1.S, .sl (v1.Names.map cS), .sl (v1.L.map zHl.c)]] (by simp)
      try simp [g6, g7, g9] at r15
      refine zA3 r15 (by simp [g6, g7, g9]) rfl ?_
      simp [g6, g7, g9]
     have c11 := leF g9
     obtain rfl := oi q14
     refine st ?_
     simp [g6, g7, g9]
     have r16 := (zAN true false false v1 v4 q5).frame [0] [[.int .i64 v1.Op, .int .i64 v1.N, .str v1.S, .sl (v1.Names.map cS), .sl (v1.L.map zHl.c)]] (by simp)
     try simp [g6, g7, g9] at r16
     refine zA3 r16 (by simp [g6, g7, g9]) rfl ?_
     simp [g6, g7, g9]
    have c12 := eqF g7
    obtain rfl := oi q14
    refine st ?_
    simp [g6, g7]
    have r17 := (zAN true false false v1 v4 q5).frame [0] [[.int .i64 v1.Op, .int .i64 v1.N, .str v1.S, .sl (v1.Names.map cS), .sl (v1.L.map zHl.c)]] (by simp)
    try simp [g6, g7] at r17
    refine zA3 r17 (by simp [g6, g7]) rfl ?_
    simp [g6, g7]
   obtain rfl := oi q14
   refine st ?_
   simp [g6]
   have r18 := (zAN true false false v1 v4 q5).frame [0] [[.int .i64 v1.Op, .int .i64 v1.N, .str v1.S, .sl (v1.Names.map cS), .sl (v1.L.map zHl.c)]] (by simp)
   try simp [g6] at r18
   refine zA3 r18 (by simp [g6]) rfl ?_
   simp [g6]
  refine zAB <| zAY <| zAH ?_
  obtain rfl := oi h
  simp
 refine cutA 127 0 [(1, .mptr 0 0), (3, .fn (.func 121) [] [.mptr 0 0]), (6, .int .i64 v1.Op), (27, .bool (eqI v1.Op 2))] [(zHl.d v1)] <| spc h rfl (fun g20 h => ?_) fun g20 h => ?_
 ·obtain ⟨b28, q29, h⟩ := bs h
  refine cut 127 0 [(2, .bool b28)] [(zHl.d v1)] ?_ ?_
  ·obtain ⟨v22, q23, q29⟩ := bs q29
   rcases sp q29 with ⟨g24, q29⟩ | ⟨g24, q29⟩
   ·rcases sp q29 with ⟨g25, q29⟩ | ⟨g25, q29⟩
    ·have c26 := eqT g25
     obtain rfl := oi q29
     refine st ?_
     simp [g24, g25]
     have r30 := (zAN false true false v1 v22 q23).frame [0] [[.int .i64 v1.Op, .int .i64 v1.N, .str v1.S, .sl (v1.Names.map cS), .sl (v1.L.map zHl.c)]] (by simp)
     try simp [g24, g25] at r30
     refine zA3 r30 (by simp [g24, g25]) rfl ?_
     simp [g24, g25]
    have c27 := eqF g25
    obtain rfl := oi q29
    refine st ?_
    simp [g24, g25]
    have r31 := (zAN false true false v1 v22 q23).frame [0] [[.int .i64 v1.Op, .int .i64 v1.N, .str v1.S, .sl (v1.Names.map cS), .sl (v1.L.map zHl.c)]] (by simp)
    try simp [g24, g25] at r31
    refine zA3 r31 (by simp [g24, g25]) rfl ?_
    simp [g24, g25]
   obtain rfl := oi q29
   refine st ?_
   simp [g24]
   have r32 := (zAN false true false v1 v22 q23).frame [0] [[.int .i64 v1.Op, .int .i64 v1.N, .str v1.S, .sl (v1.Names.map cS), .sl (v1.L.map zHl.c)]] (by simp)
   try simp [g24] at r32
   refine zA3 r32 (by simp [g24]) rfl ?_
   simp [g24]
  refine zAB <| zAY <| zAH ?_
  obtain rfl := oi h
  simp
 refine cutA 127 0 [(1, .mptr 0 0), (3, .fn (.func 121) [] [.mptr 0 0]), (6, .int .i64 v1.Op), (43, .bool (eqI v1.Op 3))] [(zHl.d v1)] <| spc h rfl (fun g34 h => ?_) fun g34 h => ?_
 ·refine zAF ?_
  obtain ⟨v36, q37, h⟩ := bs h
  refine cut 127 0 [(1, .mptr 0 0), (3, .fn (.func 121) [] [.mptr 0 0]), (46, .bool v36)] [(zHl.d v1)] ?_ ?_
  ·refine st ?_
   simp
   have r59 := zG8 v1 v36 q37
   try simp at r59
   refine zAD r59 (by simp) rfl ?_
   simp
  refine spc h rfl (fun g38 h => ?_) fun g38 h => ?_
  ·obtain ⟨b42, q43, h⟩ := bs h
   refine cut 127 0 [(2, .bool b42)] [(zHl.d v1)] ?_ ?_
   ·obtain ⟨v39, q40, q43⟩ := bs q43
    rcases sp q43 with ⟨g41, q43⟩ | ⟨g41, q43⟩
    ·obtain rfl := oi q43
     refine st ?_
     simp [g41]
     have r44 := (zAN false false false v1 v39 q40).frame [0] [[.int .i64 v1.Op, .int .i64 v1.N, .str v1.S, .sl (v1.Names.map cS), .sl (v1.L.map zHl.c)]] (by simp)
     try simp [g41] at r44
     refine zA3 r44 (by simp [g41]) rfl ?_
     simp [g41]
    obtain rfl := oi q43
    refine st ?_
    simp [g41]
    have r45 := (zAN false false false v1 v39 q40).frame [0] [[.int .i64 v1.Op, .int .i64 v1.N, .str v1.S, .sl (v1.Names.map cS), .sl (v1.L.map zHl.c)]] (by simp)
    try simp [g41] at r45
    refine zA3 r45 (by simp [g41]) rfl ?_
    simp [g41]
   refine zAB <| zAH <| zAY <| zAH ?_
   obtain rfl := oi h
   simp
  refine zAG <| zAd ?_
  obtain ⟨b52, q53, h⟩ := bs h
  refine cut 127 0 [(2, .bool b52)] [(zHl.d v1)] ?_ ?_
  ·obtain ⟨v46, q47, q53⟩ := bs q53
   rcases sp q53 with ⟨g48, q53⟩ | ⟨g48, q53⟩
   ·obtain ⟨v49, q50, q53⟩ := bs q53
    rcases sp q53 with ⟨g51, q53⟩ | ⟨g51, q53⟩
    ·obtain rfl := oi q53
     refine st ?_
     simp [g48, g51]
     have r54 := (zAN false false true v1 v46 q47).frame [0] [[.int .i64 v1.Op, .int .i64 v1.N, .str v1.S, .sl (v1.Names.map cS), .sl (v1.L.map zHl.c)]] (by simp)
     try simp [g48, g51] at r54
     refine zA3 r54 (by simp [g48, g51]) rfl ?_
     simp [g48, g51]
     have r55 := zEW fuel v1.Names v49 q50
     try simp [g48, g51] at r55
     refine zAD r55 (by simp) rfl ?_
     simp [g48, g51]
    obtain rfl := oi q53
    refine st ?_
    simp [g48, g51]
    have r56 := (zAN false false true v1 v46 q47).frame [0] [[.int .i64 v1.Op, .int .i64 v1.N, .str v1.S, .sl (v1.Names.map cS), .sl (v1.L.map zHl.c)]] (by simp)
    try simp [g48, g51] at r56
    refine zA3 r56 (by simp [g48, g51]) rfl ?_
    simp [g48, g51]
    have r57 := zEW fuel v1.Names v49 q50
    try simp [g48, g51] at r57
    refine zAD r57 (by simp) rfl ?_
    simp [g48, g51]
   obtain rfl := oi q53
   refine st ?_
   simp [g48]
   have r58 := (zAN false false true v1 v46 q47).frame [0] [[.int .i64 v1.Op, .int .i64 v1.N, .str v1.S, .sl (v1.Names.map cS), .sl (v1.L.map zHl.c)]] (by simp)
   try simp [g48] at r58
   refine zA3 r58 (by simp [g48]) rfl ?_
   simp [g48]
  refine zAB <| zAY <| zAH ?_
  obtain rfl := oi h
  simp
 refine cutA 127 0 [(1, .mptr 0 0), (3, .fn (.func 121) [] [.mptr 0 0]), (6, .int .i64 v1.Op), (71, .bool (eqI v1.Op 4))] [(zHl.d v1)] <| spc h rfl (fun g61 h => ?_) fun g61 h => ?_
 ·refine zAF ?_
  obtain ⟨v63, q64, h⟩ := bs h
  refine cut 127 0 [(1, .mptr 0 0), (3, .fn (.func 121) [] [.mptr 0 0]), (74, .bool v63)] [(zHl.d v1)] ?_ ?_
  ·refine st ?_
   simp
   have r95 := zGd v1 v63 q64
   try simp at r95
   refine zAD r95 (by simp) rfl ?_
   simp
  refine spc h rfl (fun g65 h => ?_) fun g65 h => ?_
  ·obtain ⟨b75, q76, h⟩ := bs h
   refine cut 127 0 [(2, .bool b75)] [(zHl.d v1)] ?_ ?_
   ·obtain ⟨v66, q67, q76⟩ := bs q76
    rcases sp q76 with ⟨g68, q76⟩ | ⟨g68, q76⟩
    ·rcases sp q76 with ⟨g69, q76⟩ | ⟨g69, q76⟩
     ·have c70 := eqT g69
      rcases sp q76 with ⟨g71, q76⟩ | ⟨g71, q76⟩
      ·have c72 := leT g71
       obtain rfl := oi q76
       refine st ?_
       simp [g68, g69, g71]
       have r77 := (zAN true false false v1 v66 q67).frame [0] [[.int .i64 v1.Op, .int .i64 v1.N, .str v1.S, .sl (v1.Names.map cS), .sl (v1.L.map zHl.c)]] (by simp)
       try simp [g68, g69, g71] at r77
       refine zA3 r77 (by simp [g68, g69, g71]) rfl ?_
       simp [g68, g69, g71]
      have c73 := leF g71
      obtain rfl := oi q76
      refine st ?_
      simp [g68, g69, g71]
      have r78 := (zAN true false false v1 v66 q67).frame [0] [[.int .i64 v1.Op, .int .i64 v1.N, .str v1.S, .sl (v1.Names.map cS), .sl (v1.L.map zHl.c)]] (by simp)
      try simp [g68, g69, g71] at r78
      refine zA3 r78 (by simp [g68, g69, g71]) rfl ?_
      simp [g68, g69, g71]
     have c74 := eqF g69
     obtain rfl := oi q76
     refine st ?_
     simp [g68, g69]
     have r79 := (zAN true false false v1 v66 q67).frame [0] [[.int .i64 v1.Op, .int .i64 v1.N, .str v1.S, .sl (v1.Names.map cS), .sl (v1.L.map zHl.c)]] (by simp)
     try simp [g68, g69] at r79
     refine zA3 r79 (by simp [g68, g69]) rfl ?_
     simp [g68, g69]
    obtain rfl := oi q76
    refine st ?_
    simp [g68]
    have r80 := (zAN true false false v1 v66 q67).frame [0] [[.int .i64 v1.Op, .int .i64 v1.N, .str v1.S, .sl (v1.Names.map cS), .sl (v1.L.map zHl.c)]] (by simp)
    try simp [g68] at r80
    refine zA3 r80 (by simp [g68]) rfl ?_
    simp [g68]
   refine zAB <| zAH <| zAY <| zAH ?_
   obtain rfl := oi h
   simp
  refine zAG <| zAd ?_
  obtain ⟨b89, q90, h⟩ := bs h
  refine cut 127 0 [(2, .bool b89)] [(zHl.d v1)] ?_ ?_
  ·obtain ⟨v81, q82, q90⟩ := bs q90
   rcases sp q90 with ⟨g83, q90⟩ | ⟨g83, q90⟩
   ·rcases sp q90 with ⟨g84, q90⟩ | ⟨g84, q90⟩
    ·have c85 := eqT g84
     obtain ⟨v86, q87, q90⟩ := bs q90
     obtain rfl := oi q90
     refine st ?_
     simp [g83, g84]
     have r91 := (zAN false true false v1 v81 q82).frame [0] [[.int .i64 v1.Op, .int .i64 v1.N, .str v1.S, .sl (v1.Names.map cS), .sl (v1.L.map zHl.c)]] (by simp)
     try simp [g83, g84] at r91
     refine zA3 r91 (by simp [g83, g84]) rfl ?_
     simp [g83, g84]
     have r92 := zD9 fuel v1.S v86 q87
     try simp [g83, g84] at r92
     refine zAD r92 (by simp) rfl ?_
     simp [g83, g84]
    have c88 := eqF g84
    obtain rfl := oi q90
    refine st ?_
    simp [g83, g84]
    have r93 := (zAN false true false v1 v81 q82).frame [0] [[.int .i64 v1.Op, .int .i64 v1.N, .str v1.S, .sl (v1.Names.map cS), .sl (v1.L.map zHl.c)]] (by simp)
    try simp [g83, g84] at r93
    refine zA3 r93 (by simp [g83, g84]) rfl ?_
    simp [g83, g84]
   obtain rfl := oi q90
   refine st ?_
   simp [g83]
   have r94 := (zAN false true false v1 v81 q82).frame [0] [[.int .i64 v1.Op, .int .i64 v1.N, .str v1.S, .sl (v1.Names.map cS), .sl (v1.L.map zHl.c)]] (by simp)
   try simp [g83] at r94
   refine zA3 r94 (by simp [g83]) rfl ?_
   simp [g83]
  refine zAB <| zAY <| zAH ?_
  obtain rfl := oi h
  simp
 refine zAF <| cutA 127 0 [(1, .mptr 0 0), (3, .fn (.func 121) [] [.mptr 0 0]), (6, .int .i64 v1.Op), (106, .bool (eqI v1.Op 5))] [(zHl.d v1)] <| spc h rfl (fun g97 h => ?_) fun g97 h => ?_
 ·refine zAG <| zAd <| zGU rfl (by simp [g97]) ?_
  obtain ⟨b102, q103, h⟩ := bs h
  refine cut 127 0 [(2, .bool b102)] [(zHl.d v1)] ?_ ?_
  ·obtain ⟨v99, q100, q103⟩ := bs q103
   rcases sp q103 with ⟨g101, q103⟩ | ⟨g101, q103⟩
   ·obtain rfl := oi q103
    refine st ?_
    simp [g101]
    have r104 := (zAN false false false v1 v99 q100).frame [0] [[.int .i64 v1.Op, .int .i64 v1.N, .str v1.S, .sl (v1.Names.map cS), .sl (v1.L.map zHl.c)]] (by simp)
    try simp [g101] at r104
    refine zA3 r104 (by simp [g101]) rfl ?_
    simp [g101]
   obtain rfl := oi q103
   refine st ?_
   simp [g101]
   have r105 := (zAN false false false v1 v99 q100).frame [0] [[.int .i64 v1.Op, .int .i64 v1.N, .str v1.S, .sl (v1.Names.map cS), .sl (v1.L.map zHl.c)]] (by simp)
   try simp [g101] at r105
   refine zA3 r105 (by simp [g101]) rfl ?_
   simp [g101]
  refine zAB <| zAY <| zAH ?_
  obtain rfl := oi h
  simp
 refine lastA 127 0 [(1, .mptr 0 0), (3, .fn (.func 121) [] [.mptr 0 0]), (6, .int .i64 v1.Op), (106, .bool (eqI v1.Op 6))] [(zHl.d v1)] <| spc h rfl (fun g107 h => ?_) fun g107 h => ?_
 ·have c108 := eqT g107
  obtain ⟨b112, q113, h⟩ := bs h
  refine cut 127 0 [(2, .bool b112)] [(zHl.d v1)] ?_ ?_
  ·obtain ⟨v109, q110, q113⟩ := bs q113
   rcases sp q113 with ⟨g111, q113⟩ | ⟨g111, q113⟩
   ·obtain rfl := oi q113
    refine st ?_
    simp [g111]
    have r114 := (zAN false false false v1 v109 q110).frame [0] [[.int .i64 v1.Op, .int .i64 v1.N, .str v1.S, .sl (v1.Names.map cS), .sl (v1.L.map zHl.c)]] (by simp)
    try simp [g111] at r114
    refine zA3 r114 (by simp [g111]) rfl ?_
    simp [g111]
   obtain rfl := oi q113
   refine st ?_
   simp [g111]
   have r115 := (zAN false false false v1 v109 q110).frame [0] [[.int .i64 v1.Op, .int .i64 v1.N, .str v1.S, .sl (v1.Names.map cS), .sl (v1.L.map zHl.c)]] (by simp)
   try simp [g111] at r115
   refine zA3 r115 (by simp [g111]) rfl ?_
   simp [g111]
  refine zAB <| zAY <| zAH ?_
  obtain rfl := oi h
  simp
 have c116 := eqF g107
 refine cutA 127 0 [(1, .mptr 0 0), (3, .fn (.func 121) [] [.mptr 0 0]), (117, .bool (eqI v1.Op 7))] [(zHl.d v1)] <| spc h rfl (fun g117 h => ?_) fun g117 h => ?_
 ·obtain ⟨b122, q123, h⟩ := bs h
  refine cut 127 0 [(2, .bool b122)] [(zHl.d v1)] ?_ ?_
  ·obtain ⟨v119, q120, q123⟩ := bs q123
   rcases sp q123 with ⟨g121, q123⟩ | ⟨g121, q123⟩
   ·obtain rfl := oi q123
    refine st ?_
    simp [g121]
    have r124 := (zAN false false false v1 v119 q120).frame [0] [[.int .i64 v1.Op, .int .i64 v1.N, .str v1.S, .sl (v1.Names.map cS), .sl (v1.L.map zHl.c)]] (by simp)
    try simp [g121] at r124
    refine zA3 r124 (by simp [g121]) rfl ?_
    simp [g121]
   obtain rfl := oi q123
   refine st ?_
   simp [g121]
   have r125 := (zAN false false false v1 v119 q120).frame [0] [[.int .i64 v1.Op, .int .i64 v1.N, .str v1.S, .sl (v1.Names.map cS), .sl (v1.L.map zHl.c)]] (by simp)
   try simp [g121] at r125
   refine zA3 r125 (by simp [g121]) rfl ?_
   simp [g121]
  refine zAB <| zAY <| zAH ?_
  obtain rfl := oi h
  simp
 refine zAG <| zEo <| zAd <| cutA 127 0 [(2, .bool false)] [(zHl.d v1)] <| zAB ?_
 obtain rfl := oi h
 simp
theorem zBJ (fuel : Nat) : (∀ (x1 : zHl) (c2 : Int) (c3 : Int) (r : Bool × Int) (_ : zBT fuel x1 c2 c3 = some r), Raw Tryz.prog 77 [.agg [.int .i64 x1.Op, .int .i64 x1.N, .str x1.S, .sl (x1.Names.map cS), .sl (x1.L.map zHl.c)], .mptr 0 0, .mptr 1 0] [[.mptr 2 0], [.int .i64 c2], [.int .i64 c3]] (.bool r.1) [[.mptr 2 0], [.int .i64 c2], [.int .i64 r.2]]) ∧ (∀ (s1 : (List zHl)) (c2 : Int) (c3 : Int) (r : Int × Int) (_ : zAZ fuel s1 c2 c3 = some r), Raw Tryz.prog 123 [.sl (s1.map zHl.c), .fn (.func 77) [] [.mptr 0 0, .mptr 1 0]] [[.mptr 2 0], [.int .i64 c2], [.int .i64 c3]] (.int .i64 r.1) [[.mptr 2 0], [.int .i64 c2], [.int .i64 r.2]]) ∧ (∀ (s1 : (List zHl)) (c2 : Int) (c3 : Int) (r : Bool × Int) (_ : zAU fuel s1 c2 c3 = some r), Raw Tryz.prog 76 [.sl (s1.map zHl.c), .fn (.func 77) [] [.mptr 0 0, .mptr 1 0]] [[.mptr 2 0], [.int .i64 c2], [.int .i64 c3]] (.bool r.1) [[.mptr 2 0], [.int .i64 c2], [.int .i64 r.2]]) ∧ (∀ (v1 : zHl) (depth2 : Int) (c3 : Int) (r : Bool × Int) (_ : zBg fuel v1 depth2 c3 = some r), Raw Tryz.prog 51 [.agg [.int .i64 v1.Op, .int .i64 v1.N, .str v1.S, .sl (v1.Names.map cS), .sl (v1.L.map zHl.c)], .mptr 0 0, .int .i64 depth2] [[.int .i64 c3]] (.bool r.1) [[.int .i64 r.2]]) := by
 induction fuel with
 | zero =>
  refine ⟨?_, ?_, ?_, ?_⟩
  ·intro x1 c2 c3 r h; rw [zBT] at h; cases h
  ·intro s1 c2 c3 r h; rw [zAZ] at h; cases h
  ·intro s1 c2 c3 r h; rw [zAU] at h; cases h
  ·intro v1 depth2 c3 r h; rw [zBg] at h; cases h
 | succ fuel ih =>
  obtain ⟨zGM, zB4, zBt, zHX⟩ := ih
  refine ⟨?_, ?_, ?_, ?_⟩
  ·intro x1 c2 c3 r h
   rw [zBT] at h
   refine zBh Tryz.func77 (by rfl) (by rfl) (by simp) (by simp) <| cutA 11 3 [(1, .mptr 0 0), (2, .mptr 1 0), (3, .mptr 3 0)] [[.mptr 2 0], [.int .i64 c2], [.int .i64 c3], (zHl.d x1)] ?_
   obtain ⟨n4, q5, h⟩ := bs h
   obtain ⟨q6, q7⟩ := zFI q5
   try simp at q6
   try simp at q7
   have c8 := q6; simp only [Rng, inR] at c8
   obtain ⟨v9, q10, h⟩ := bs h
   refine cut 11 3 [(4, .bool (!v9.1))] [[.mptr 2 0], [.int .i64 c2], [.int .i64 v9.2], (zHl.d x1)] ?_ ?_
   ·refine st ?_
    simp [q6, q7]
    have r11 := (zHX x1 n4 c3 v9 q10).frame [2] [[.mptr 2 0], [.int .i64 c2], [.int .i64 c3], [.int .i64 x1.Op, .int .i64 x1.N, .str x1.S, .sl (x1.Names.map cS), .sl (x1.L.map zHl.c)]] (by simp)
    try simp [q6, q7] at r11
    refine zA3 r11 (by simp [q6, q7]) rfl ?_
    simp [q6, q7]
   refine zAB ?_
   obtain rfl := oi h
   simp
  ·intro s1 c2 c3 r h
   rw [zAZ] at h
   refine zBh Tryz.func123 (by rfl) (by rfl) (by simp) (by simp) <| cutA 19 3 [(0, .sl (s1.map zHl.c)), (1, .fn (.func 77) [] [.mptr 0 0, .mptr 1 0])] [[.mptr 2 0], [.int .i64 c2], [.int .i64 c3]] <| zAF <| cutA 19 3 [(0, .sl (s1.map zHl.c)), (1, .fn (.func 77) [] [.mptr 0 0, .mptr 1 0]), (7, .int .i64 s1.length), (8, .int .i64 0)] [[.mptr 2 0], [.int .i64 c2], [.int .i64 c3]] <| zAL ?_
   obtain ⟨o7, l8, h⟩ := bs h
   refine zBq (fun p : Nat × Int × Nat => mkS 19 3 [(0, .sl (s1.map zHl.c)), (1, .fn (.func 77) [] [.mptr 0 0, .mptr 1 0]), (7, .int .i64 s1.length), (8, .int .i64 p.2.2)] [[.mptr 2 0], [.int .i64 c2], [.int .i64 p.2.1]]) (fun p => zAI (zBT fuel) s1 c2 p.1 p.2.1 p.2.2 = some o7) (fun p => p.1) (fuel, c3, 0) l8 (zBO (by simp)) ?_
   rintro ⟨k9, a4, i5⟩ l8
   try dsimp only at l8 ⊢
   cases k9 with
   | zero =>
    rw [zAI] at l8; cases l8
   | succ k10 =>
    rw [zAI] at l8
    refine cutA 19 3 [(0, .sl (s1.map zHl.c)), (1, .fn (.func 77) [] [.mptr 0 0, .mptr 1 0]), (7, .int .i64 s1.length), (8, .int .i64 i5), (9, .bool (ltI ((i5 : Nat) : Int) (s1.length : Int)))] [[.mptr 2 0], [.int .i64 c2], [.int .i64 a4]] <| zAF <| spc l8 rfl (fun g11 l8 => ?_) fun g11 l8 => ?_
    ·have c12 := ltT g11
     refine zER 0 rfl fun f13 => ?_
     rw [List.length_map] at f13
     refine zAG <| zAd <| zAF <| zAL <| cutA 19 3 [(0, .sl (s1.map zHl.c)), (1, .fn (.func 77) [] [.mptr 0 0, .mptr 1 0]), (5, .int .i64 i5), (7, .int .i64 s1.length), (8, .int .i64 i5)] [[.mptr 2 0], [.int .i64 c2], [.int .i64 a4]] ?_
     obtain ⟨x14, q15, l8⟩ := bs l8
     obtain ⟨v16, q17, l8⟩ := bs l8
     refine cut 19 3 [(0, .sl (s1.map zHl.c)), (1, .fn (.func 77) [] [.mptr 0 0, .mptr 1 0]), (5, .int .i64 i5), (7, .int .i64 s1.length), (8, .int .i64 i5), (16, .bool v16.1)] [[.mptr 2 0], [.int .i64 c2], [.int .i64 v16.2]] ?_ ?_
     ·refine st ?_
      simp [q15]
      have r20 := (zGM x14 c2 a4 v16 q17).frame [0, 1, 2] [[.mptr 2 0], [.int .i64 c2], [.int .i64 a4]] (by simp)
      try simp [q15] at r20
      refine zA3 r20 (by simp [q15]) rfl ?_
      simp [q15]
     refine spc l8 rfl (fun g18 l8 => ?_) fun g18 l8 => ?_
     ·refine cutA 19 3 [(4, .int .i64 i5)] [[.mptr 2 0], [.int .i64 c2], [.int .i64 v16.2]] <| zAB <| zAY <| zAH ?_
      replace h := retL l8 h
      refine zAH <| zAY <| zAH ?_
      obtain rfl := oi h
      simp
     refine zAG <| zEo <| zAd ?_
     have q19 : Rng .i64 (((i5 : Nat) : Int) + 1) := by simp only [Rng, inR]; omega
     try simp at q19
     refine last 19 3 [(0, .sl (s1.map zHl.c)), (1, .fn (.func 77) [] [.mptr 0 0, .mptr 1 0]), (7, .int .i64 s1.length), (8, .int .i64 ((i5 + 1 : Nat) : Int))] [[.mptr 2 0], [.int .i64 c2], [.int .i64 v16.2]] (st (by simp [q19])) fun zz hs => ?_
     exact ⟨(k10, v16.2, i5 + 1), hs, l8, by simp⟩
    have c21 := ltF g11
    refine zER 0 rfl fun f22 => ?_
    rw [List.length_map] at f22
    refine zBA <| zAX ?_
    rcases o7 with o7 | o6
    ·cases l8
    have q23 := Sum.inr.inj (Option.some.inj l8)
    replace h := elimR h
    have q23 := q23.symm
    refine zAX <| zBC <| zCL (t := mkS 19 3 [] [[.mptr 2 0], [.int .i64 c2], [.int .i64 o6]]) ?_ (zBO (by simp [q23]))
    refine cutA 19 3 [(4, .int .i64 (-1))] [[.mptr 2 0], [.int .i64 c2], [.int .i64 o6]] <| zAB ?_
    obtain rfl := oi h
    simp
  ·intro s1 c2 c3 r h
   rw [zAU] at h
   refine zBh Tryz.func76 (by rfl) (by rfl) (by simp) (by simp) <| cutA 9 3 [(0, .sl (s1.map zHl.c)), (1, .fn (.func 77) [] [.mptr 0 0, .mptr 1 0])] [[.mptr 2 0], [.int .i64 c2], [.int .i64 c3]] ?_
   obtain ⟨v4, q5, h⟩ := bs h
   refine cut 9 3 [(4, .bool (leI 0 v4.1))] [[.mptr 2 0], [.int .i64 c2], [.int .i64 v4.2]] ?_ ?_
   ·refine st ?_
    simp
    have r6 := (zB4 s1 c2 c3 v4 q5).frame [0, 1, 2] [[.mptr 2 0], [.int .i64 c2], [.int .i64 c3]] (by simp)
    try simp at r6
    refine zA3 r6 (by simp) rfl ?_
    simp
   refine zAB ?_
   obtain rfl := oi h
   simp
  ·intro v1 depth2 c3 r h
   rw [zBg] at h
   refine zBh Tryz.func51 (by rfl) (by rfl) (by simp) (by simp) <| cutA 30 1 [(3, .mptr 1 0), (4, .mptr 2 0), (5, .mptr 3 0)] [[.int .i64 c3], (zHl.d v1), [.mptr 0 0], [.int .i64 depth2]] ?_
   obtain ⟨n4, q5, h⟩ := bs h
   obtain ⟨q6, q7⟩ := zFI q5
   try simp at q6
   try simp at q7
   have c8 := q6; simp only [Rng, inR] at c8
   refine cut 30 1 [(3, .mptr 1 0), (4, .mptr 2 0), (5, .mptr 3 0)] [[.int .i64 n4], (zHl.d v1), [.mptr 0 0], [.int .i64 depth2]] (st (by simp [q6, q7])) <| zAF ?_
   obtain ⟨b17, q18, h⟩ := bs h
   refine cut 30 1 [(3, .mptr 1 0), (4, .mptr 2 0), (5, .mptr 3 0), (24, .bool b17)] [[.int .i64 n4], (zHl.d v1), [.mptr 0 0], [.int .i64 depth2]] ?_ ?_
   ·rcases sp q18 with ⟨g9, q18⟩ | ⟨g9, q18⟩
    ·have c10 := ltT g9
     obtain rfl := oi q18
     refine st ?_
     simp [g9]
    have c11 := ltF g9
    rcases sp q18 with ⟨g12, q18⟩ | ⟨g12, q18⟩
    ·have c13 := eqT g12
     obtain rfl := oi q18
     refine st ?_
     simp [g9, g12]
    have c14 := eqF g12
    obtain ⟨v15, q16, q18⟩ := bs q18
    obtain rfl := oi q18
    refine st ?_
    simp [g9, g12]
    have r23 := value_node_ok fuel v1 v15 q16
    try simp [g9, g12] at r23
    refine zAD r23 (by simp) rfl ?_
    simp [g9, g12]
   refine spc h rfl (fun g19 h => ?_) fun g19 h => ?_
   ·refine cutA 30 1 [(6, .bool false)] [[.int .i64 n4], (zHl.d v1), [.mptr 0 0], [.int .i64 depth2]] <| zAB <| zAH ?_
    obtain rfl := oi h
    simp
   refine zAG <| zAd ?_
   obtain ⟨v20, q21, h⟩ := bs h
   refine cut 30 1 [(6, .bool (!v20.1))] [[.int .i64 v20.2], (zHl.d v1), [.mptr 0 0], [.int .i64 depth2]] ?_ ?_
   ·refine st ?_
    simp
    have r22 := (zBt v1.L depth2 n4 v20 q21).frame [2, 3, 0] [[.int .i64 n4], [.int .i64 v1.Op, .int .i64 v1.N, .str v1.S, .sl (v1.Names.map cS), .sl (v1.L.map zHl.c)], [.mptr 0 0], [.int .i64 depth2]] (by simp)
    try simp at r22
    refine zA3 r22 (by simp) rfl ?_
    simp
   refine zAB ?_
   obtain rfl := oi h
   simp
theorem zG7 (fuel : Nat) : (∀ (v1 : zHl) (depth2 : Int) (c3 : Int) (r : Bool × Int) (_ : zBg fuel v1 depth2 c3 = some r), Raw Tryz.prog 51 [.agg [.int .i64 v1.Op, .int .i64 v1.N, .str v1.S, .sl (v1.Names.map cS), .sl (v1.L.map zHl.c)], .mptr 0 0, .int .i64 depth2] [[.int .i64 c3]] (.bool r.1) [[.int .i64 r.2]]) := (zBJ fuel).2.2.2
theorem zG9 (fuel : Nat) (v1 : zHl) (r : Bool) (h : zBv fuel v1 = some r) : Pure Tryz.prog 30 [.agg [.int .i64 v1.Op, .int .i64 v1.N, .str v1.S, .sl (v1.Names.map cS), .sl (v1.L.map zHl.c)]] (.bool r) := by
 rw [zBv] at h
 refine zAC Tryz.func30 (by rfl) (by rfl) (by simp) (by simp) (by simp) <| cutA 6 0 [(1, .mptr 0 0)] [(zHl.d v1)] <| cutA 6 0 [(1, .mptr 0 0), (3, .mptr 1 0)] [(zHl.d v1), [.int .i64 20000]] ?_
 obtain ⟨v2, q3, h⟩ := bs h
 refine cut 6 0 [(2, .bool v2.1)] [(zHl.d v1), [.int .i64 v2.2]] ?_ ?_
 ·refine st ?_
  simp
  have r4 := (zG7 fuel v1 400 20000 v2 q3).frame [1] [[.int .i64 v1.Op, .int .i64 v1.N, .str v1.S, .sl (v1.Names.map cS), .sl (v1.L.map zHl.c)], [.int .i64 20000]] (by simp)
  try simp at r4
  refine zA3 r4 (by simp) rfl ?_
  simp
 refine zAB ?_
 obtain rfl := oi h
 simp
theorem zFa (fuel : Nat) : (∀ (v1 : zHl) (r : zHl) (_ : zAr fuel v1 = some r), Pure Tryz.prog 52 [.agg [.int .i64 v1.Op, .int .i64 v1.N, .str v1.S, .sl (v1.Names.map cS), .sl (v1.L.map zHl.c)]] (.agg [.int .i64 r.Op, .int .i64 r.N, .str r.S, .sl (r.Names.map cS), .sl (r.L.map zHl.c)])) := by
 induction fuel with
 | zero => intro v1 r h; rw [zAr] at h; cases h
 | succ fuel zFe =>
  intro v1 r h
  rw [zAr] at h
  refine zAC Tryz.func52 (by rfl) (by rfl) (by simp) (by simp) (by simp) <| cutA 28 0 [(1, .mptr 0 0), (2, .mptr 1 0)] [(zHl.d v1), [.int .i64 0, .int .i64 0, .str ([] : List UInt8), .osl ⟨1, 9⟩ (([] : List (List UInt8)).map cS), .osl ⟨5, 28⟩ (([] : List zHl).map zHl.c)]] <| cutA 28 0 [(1, .mptr 0 0), (2, .mptr 1 0), (3, .mptr 2 0)] [(zHl.d v1), [.int .i64 0, .int .i64 0, .str ([] : List UInt8), .osl ⟨1, 9⟩ (([] : List (List UInt8)).map cS), .osl ⟨5, 28⟩ (([] : List zHl).map zHl.c)], (zHl.d v1)] ?_
  obtain ⟨v2, q3, h⟩ := bs h
  refine cut 28 0 [(1, .mptr 0 0), (2, .mptr 1 0), (3, .mptr 2 0)] [(zHl.d v1), [.int .i64 0, .int .i64 0, .str ([] : List UInt8), .osl ⟨1, 9⟩ (([] : List (List UInt8)).map cS), .osl ⟨5, 28⟩ (([] : List zHl).map zHl.c)], [.int .i64 v1.Op, .int .i64 v1.N, .str v1.S, .sl (v2.map cS), .osl ⟨5, 28⟩ (([] : List zHl).map zHl.c)]] ?_ ?_
  ·refine st ?_
   simp
   have r26 := zDs v1.Names v2 q3
   try simp at r26
   refine zAD r26 (by simp) rfl ?_
   simp
  refine zAF <| cutA 28 0 [(2, .mptr 1 0), (3, .mptr 2 0), (13, .sl (v1.L.map zHl.c)), (14, .int .i64 v1.L.length), (15, .int .i64 0)] [(zHl.d v1), [.int .i64 0, .int .i64 0, .str ([] : List UInt8), .osl ⟨1, 9⟩ (([] : List (List UInt8)).map cS), .osl ⟨5, 28⟩ (([] : List zHl).map zHl.c)], [.int .i64 v1.Op, .int .i64 v1.N, .str v1.S, .sl (v2.map cS), .osl ⟨5, 28⟩ (([] : List zHl).map zHl.c)]] <| zAL ?_
  obtain ⟨o6, l7, h⟩ := bs h
  refine zBq (fun p : Nat × (List zHl) × Nat => mkS 28 0 [(2, .mptr 1 0), (3, .mptr 2 0), (13, .sl (v1.L.map zHl.c)), (14, .int .i64 v1.L.length), (15, .int .i64 p.2.2)] [(zHl.d v1), [.int .i64 0, .int .i64 0, .str ([] : List UInt8), .osl ⟨1, 9⟩ (([] : List (List UInt8)).map cS), .osl ⟨5, 28⟩ (([] : List zHl).map zHl.c)], [.int .i64 v1.Op, .int .i64 v1.N, .str v1.S, .sl (v2.map cS), .osl ⟨5, 28⟩ (p.2.1.map zHl.c)]]) (fun p => zAp (zAr fuel) v1 p.1 p.2.1 p.2.2 = some o6) (fun p => p.1) (fuel, ([] : List zHl), 0) l7 (zBO (by simp)) ?_
  rintro ⟨k8, L4, i5⟩ l7
  try dsimp only at l7 ⊢
  cases k8 with
  | zero =>
   rw [zAp] at l7; cases l7
  | succ k9 =>
   rw [zAp] at l7
   refine cutA 28 0 [(2, .mptr 1 0), (3, .mptr 2 0), (13, .sl (v1.L.map zHl.c)), (14, .int .i64 v1.L.length), (15, .int .i64 i5), (16, .bool (ltI ((i5 : Nat) : Int) (v1.L.length : Int)))] [(zHl.d v1), [.int .i64 0, .int .i64 0, .str ([] : List UInt8), .osl ⟨1, 9⟩ (([] : List (List UInt8)).map cS), .osl ⟨5, 28⟩ (([] : List zHl).map zHl.c)], [.int .i64 v1.Op, .int .i64 v1.N, .str v1.S, .sl (v2.map cS), .osl ⟨5, 28⟩ (L4.map zHl.c)]] <| zAF <| spc l7 rfl (fun g10 l7 => ?_) fun g10 l7 => ?_
   ·have c11 := ltT g10
    refine zER 13 rfl fun f12 => ?_
    rw [List.length_map] at f12
    refine zAG <| zAd <| zAF <| zAL ?_
    obtain ⟨x13, q14, l7⟩ := bs l7
    refine cut 28 0 [(2, .mptr 1 0), (3, .mptr 2 0), (5, .mptr 3 0), (13, .sl (v1.L.map zHl.c)), (14, .int .i64 v1.L.length), (15, .int .i64 i5)] [(zHl.d v1), [.int .i64 0, .int .i64 0, .str ([] : List UInt8), .osl ⟨1, 9⟩ (([] : List (List UInt8)).map cS), .osl ⟨5, 28⟩ (([] : List zHl).map zHl.c)], [.int .i64 v1.Op, .int .i64 v1.N, .str v1.S, .sl (v2.map cS), .osl ⟨5, 28⟩ (L4.map zHl.c)], (zHl.d x13)] (st (by simp [q14])) ?_
    obtain ⟨v15, q16, l7⟩ := bs l7
    obtain ⟨l17, q18, l7⟩ := bs l7
    obtain ⟨q19, q20⟩ := app_ok q18
    try simp at q19
    refine last 28 0 [(2, .mptr 1 0), (3, .mptr 2 0), (13, .sl (v1.L.map zHl.c)), (14, .int .i64 v1.L.length), (15, .int .i64 i5)] [(zHl.d v1), [.int .i64 0, .int .i64 0, .str ([] : List UInt8), .osl ⟨1, 9⟩ (([] : List (List UInt8)).map cS), .osl ⟨5, 28⟩ (([] : List zHl).map zHl.c)], [.int .i64 v1.Op, .int .i64 v1.N, .str v1.S, .sl (v2.map cS), .osl ⟨5, 28⟩ (l17.map zHl.c)], (zHl.d x13)] ?_ fun zz hs => ?_
    ·refine zB5 [] mixed (n := 28) rfl (by decide) ?_
     simp [q19, q20]
     have r22 := zFe x13 v15 q16
     try simp [q19, q20] at r22
     refine callD r22 (by simp) rfl ?_
     simp [q19, q20]
    refine zEo <| zCL ?_ hs
    have q21 : Rng .i64 (((i5 : Nat) : Int) + 1) := by simp only [Rng, inR]; omega
    try simp at q21
    refine last 28 0 [(2, .mptr 1 0), (3, .mptr 2 0), (13, .sl (v1.L.map zHl.c)), (14, .int .i64 v1.L.length), (15, .int .i64 ((i5 + 1 : Nat) : Int))] [(zHl.d v1), [.int .i64 0, .int .i64 0, .str ([] : List UInt8), .osl ⟨1, 9⟩ (([] : List (List UInt8)).map cS), .osl ⟨5, 28⟩ (([] : List zHl).map zHl.c)], [.int .i64 v1.Op, .int .i64 v1.N, .str v1.S, .sl (v2.map cS), .osl ⟨5, 28⟩ (l17.map zHl.c)]] (st (by simp [q21])) fun zz hs => ?_
    exact ⟨(k9, l17, i5 + 1), hs, l7, by simp⟩
   have c23 := ltF g10
   refine zER 13 rfl fun f24 => ?_
   rw [List.length_map] at f24
   refine zBA <| zAX ?_
   have q25 := Option.some.inj l7
   have q25 := q25.symm
   refine zAX <| zBC <| zCL (t := mkS 28 0 [(2, .mptr 1 0), (3, .mptr 2 0)] [(zHl.d v1), [.int .i64 0, .int .i64 0, .str ([] : List UInt8), .osl ⟨1, 9⟩ (([] : List (List UInt8)).map cS), .osl ⟨5, 28⟩ (([] : List zHl).map zHl.c)], [.int .i64 v1.Op, .int .i64 v1.N, .str v1.S, .sl (v2.map cS), .osl ⟨5, 28⟩ (o6.map zHl.c)]]) ?_ (zBO (by simp [q25]))
   refine cutA 28 0 [(2, .mptr 1 0)] [(zHl.d v1), [.int .i64 v1.Op, .int .i64 v1.N, .str v1.S, .sl (v2.map cS), .sl (o6.map zHl.c)], [.int .i64 v1.Op, .int .i64 v1.N, .str v1.S, .sl (v2.map cS), .osl ⟨5, 28⟩ (o6.map zHl.c)]] <| zAB ?_
   obtain rfl := oi h
   simp
theorem zEz (fuel : Nat) (l1 : (List (List UInt8))) (n2 : Int) (r : Bool) (h : zBb fuel l1 n2 = some r) : Pure Tryz.prog 53 [.sl (l1.map cS), .int .i64 n2] (.bool r) := by
 rw [zBb] at h
 refine zAC Tryz.func53 (by rfl) (by rfl) (by simp) (by simp) (by simp) <| cutA 24 0 [(0, .sl (l1.map cS)), (1, .int .i64 n2)] [] <| zAF <| cutA 24 0 [(0, .sl (l1.map cS)), (10, .bool (!(eqI (l1.length : Int) n2)))] [] ?_
 rcases sp h with ⟨g3, h⟩ | ⟨g3, h⟩
 ·have g4 := notT g3
  have c5 := eqF g4
  refine zGU rfl g3 <| cutA 24 0 [(4, .bool false)] [] <| zAB <| zAH ?_
  obtain rfl := oi h
  simp
 have g6 := notF g3
 have c7 := eqT g6
 refine zGV rfl g3 <| zAG <| zAd <| zAF <| cutA 24 0 [(11, .sl (l1.map cS)), (12, .int .i64 l1.length), (13, .int .i64 0)] [] <| zAL ?_
 obtain ⟨o10, l11, h⟩ := bs h
 refine zBq (fun p : Nat × Nat => mkS 24 0 [(11, .sl (l1.map cS)), (12, .int .i64 l1.length), (13, .int .i64 p.2)] []) (fun p => zAg l1 p.1 p.2 = some o10) (fun p => p.1) (fuel, 0) l11 (zBO (by simp)) ?_
 rintro ⟨k12, i8⟩ l11
 try dsimp only at l11 ⊢
 cases k12 with
 | zero =>
  rw [zAg] at l11; cases l11
 | succ k13 =>
  rw [zAg] at l11
  refine cutA 24 0 [(11, .sl (l1.map cS)), (12, .int .i64 l1.length), (13, .int .i64 i8), (14, .bool (ltI ((i8 : Nat) : Int) (l1.length : Int)))] [] <| zAF <| spc l11 rfl (fun g14 l11 => ?_) fun g14 l11 => ?_
  ·have c15 := ltT g14
   refine zER 11 rfl fun f16 => ?_
   rw [List.length_map] at f16
   refine zAG <| zAd <| zAF <| zAL ?_
   obtain ⟨x17, q18, l11⟩ := bs l11
   refine cut 24 0 [(5, .int .i64 i8), (6, .str x17), (11, .sl (l1.map cS)), (12, .int .i64 l1.length), (13, .int .i64 i8)] [] (st (by simp [q18])) ?_
   have q19 : Rng .i64 (((i8 : Nat) : Int) + 1) := by simp only [Rng, inR]; omega
   try simp at q19
   obtain ⟨v20, q21, l11⟩ := bs l11
   refine cut 24 0 [(11, .sl (l1.map cS)), (12, .int .i64 l1.length), (13, .int .i64 i8), (22, .bool (!(eqS x17 v20)))] [] ?_ ?_
   ·refine st ?_
    simp [q19]
    have r26 := zEX ((i8 + 1 : Nat) : Int) v20 q21
    try simp [q19] at r26
    refine zAD r26 (by simp) rfl ?_
    simp [q19]
   refine spc l11 rfl (fun g22 l11 => ?_) fun g22 l11 => ?_
   ·have g23 := notT g22
    refine cutA 24 0 [(4, .bool false)] [] <| zAB <| zAY <| zAH ?_
    replace h := retL l11 h
    refine zAH <| zAY <| zAH ?_
    obtain rfl := oi h
    simp
   have g24 := notF g22
   refine zAG <| zEo <| zAd ?_
   have q25 : Rng .i64 (((i8 : Nat) : Int) + 1) := by simp only [Rng, inR]; omega
   try simp at q25
   refine last 24 0 [(11, .sl (l1.map cS)), (12, .int .i64 l1.length), (13, .int .i64 ((i8 + 1 : Nat) : Int))] [] (st (by simp [q25])) fun zz hs => ?_
   exact ⟨(k13, i8 + 1), hs, l11, by simp⟩
  have c27 := ltF g14
  refine zER 11 rfl fun f28 => ?_
  rw [List.length_map] at f28
  refine zBA <| zAX ?_
  rcases o10 with o10 | o9
  ·cases l11
  have q29 := Sum.inr.inj (Option.some.inj l11)
  replace h := elimR h
  refine zAX <| zBC <| zCL (t := mkS 24 0 [] []) ?_ (zBO (by simp))
  refine cutA 24 0 [(4, .bool true)] [] <| zAB ?_
  obtain rfl := oi h
  simp
theorem zGC (fuel : Nat) : (∀ (p1 : zHm) (v2 : zHl) (l3 : (List zHl)) (r : (List zHl) × Bool × Bool) (_ : zAQ fuel p1 v2 l3 = some r), PureG Tryz.prog 31 [.agg [.int .i64 p1.Op, .int .i64 p1.N, .str p1.S, .sl (p1.L.map zHm.c)], .agg [.int .i64 v2.Op, .int .i64 v2.N, .str v2.S, .sl (v2.Names.map cS), .sl (v2.L.map zHl.c)], .osl ⟨5, 28⟩ (l3.map zHl.c)] 2 ⟨5, 28⟩ (l3.map zHl.c) (.otup ⟨5, 28⟩ (r.1.map zHl.c) [.bool r.2.1, .bool r.2.2])) := by
 induction fuel with
 | zero => intro p1 v2 l3 r h; rw [zAQ] at h; cases h
 | succ fuel zD7 =>
  intro p1 v2 l3 r h
  rw [zAQ] at h
  refine pureG_of_body Tryz.func31 (by rfl) (by rfl) (by simp) rfl (by simp) (by simp) <| cutA 154 0 [(2, .osl ⟨5, 28⟩ (l3.map zHl.c)), (3, .mptr 0 0), (4, .mptr 1 0)] [(zHm.d p1), (zHl.d v2)] <| zAF <| cutA 154 0 [(2, .osl ⟨5, 28⟩ (l3.map zHl.c)), (3, .mptr 0 0), (4, .mptr 1 0), (15, .int .i64 p1.Op)] [(zHm.d p1), (zHl.d v2)] <| zAL <| cutA 154 0 [(2, .osl ⟨5, 28⟩ (l3.map zHl.c)), (3, .mptr 0 0), (4, .mptr 1 0), (15, .int .i64 p1.Op), (16, .bool (eqI p1.Op 1))] [(zHm.d p1), (zHl.d v2)] <| spc h rfl (fun g4 h => ?_) fun g4 h => ?_
  ·refine cutA 154 0 [(6, .osl ⟨5, 28⟩ (l3.map zHl.c)), (7, .bool true), (8, .bool false)] [(zHm.d p1), (zHl.d v2)] <| zAB <| zAY <| zAH ?_
   obtain rfl := oi h
   simp
  refine cutA 154 0 [(2, .osl ⟨5, 28⟩ (l3.map zHl.c)), (3, .mptr 0 0), (4, .mptr 1 0), (15, .int .i64 p1.Op), (19, .bool (eqI p1.Op 2))] [(zHm.d p1), (zHl.d v2)] <| spc h rfl (fun g7 h => ?_) fun g7 h => ?_
  ·obtain ⟨v9, q10, h⟩ := bs h
   obtain ⟨l11, q12, h⟩ := bs h
   obtain ⟨q13, q14⟩ := app_ok q12
   try simp at q13
   refine cut 154 0 [(6, .osl ⟨5, 28⟩ (l11.map zHl.c)), (7, .bool true), (8, .bool false)] [(zHm.d p1), (zHl.d v2)] ?_ ?_
   ·refine st ?_
    simp [q13, q14]
    have r15 := zFa fuel v2 v9 q10
    try simp [q13, q14] at r15
    refine zAD r15 (by simp) rfl ?_
    simp [q13, q14]
   refine zAB <| zAY <| zAH ?_
   obtain rfl := oi h
   simp
  refine cutA 154 0 [(2, .osl ⟨5, 28⟩ (l3.map zHl.c)), (3, .mptr 0 0), (4, .mptr 1 0), (15, .int .i64 p1.Op), (26, .bool (eqI p1.Op 3))] [(zHm.d p1), (zHl.d v2)] <| spc h rfl (fun g17 h => ?_) fun g17 h => ?_
  ·refine cut 154 0 [(6, .osl ⟨5, 28⟩ (l3.map zHl.c)), (7, .bool ((eqI v2.Op 1) && (eqI v2.N p1.N))), (8, .bool (!(eqI v2.Op 1)))] [(zHm.d p1), (zHl.d v2)] ?_ ?_
   ·rcases tf (eqI v2.Op 1) with g19 | g19
    ·have c20 := eqT g19
     refine zA4 [998] [16] mixed (n := 154) rfl (by decide) (by decide) ?_
     simp [g19]
    have c21 := eqF g19
    refine zA4 [998] [16] mixed (n := 154) rfl (by decide) (by decide) ?_
    simp [g19]
   refine zAB <| zAY <| zAH ?_
   obtain rfl := oi h
   simp
  refine cutA 154 0 [(2, .osl ⟨5, 28⟩ (l3.map zHl.c)), (3, .mptr 0 0), (4, .mptr 1 0), (42, .bool (eqI p1.Op 5))] [(zHm.d p1), (zHl.d v2)] <| spc h rfl (fun g23 h => ?_) fun g23 h => ?_
  ·refine zAF ?_
   obtain ⟨b37, q38, h⟩ := bs h
   refine cut 154 0 [(2, .osl ⟨5, 28⟩ (l3.map zHl.c)), (3, .mptr 0 0), (4, .mptr 1 0), (64, .bool b37)] [(zHm.d p1), (zHl.d v2)] ?_ ?_
   ·rcases sp q38 with ⟨g25, q38⟩ | ⟨g25, q38⟩
    ·have g26 := notT g25
     have c27 := eqF g26
     obtain rfl := oi q38
     refine st ?_
     simp [g25]
    have g28 := notF g25
    have c29 := eqT g28
    rcases sp q38 with ⟨g30, q38⟩ | ⟨g30, q38⟩
    ·have g31 := notT g30
     have c32 := eqF g31
     obtain rfl := oi q38
     refine st ?_
     simp [g25, g30]
    have g33 := notF g30
    have c34 := eqT g33
    obtain ⟨v35, q36, q38⟩ := bs q38
    obtain rfl := oi q38
    refine st ?_
    simp [g25, g30]
    have r64 := zEz fuel v2.Names (p1.L.length : Int) v35 q36
    try simp [g25, g30] at r64
    refine zAD r64 (by simp) rfl ?_
    simp [g25, g30]
   refine spc h rfl (fun g39 h => ?_) fun g39 h => ?_
   ·refine cutA 154 0 [(6, .osl ⟨5, 28⟩ (([] : List zHl).map zHl.c)), (7, .bool false), (8, .bool true)] [(zHm.d p1), (zHl.d v2)] <| zAB <| zAH <| zAY <| zAH ?_
    obtain rfl := oi h
    simp
   refine zAG <| zAd <| zAF <| cutA 154 0 [(2, .osl ⟨5, 28⟩ (l3.map zHl.c)), (4, .mptr 1 0), (66, .sl (p1.L.map zHm.c)), (67, .int .i64 p1.L.length), (68, .int .i64 0)] [(zHm.d p1), (zHl.d v2)] <| zAL ?_
   obtain ⟨o43, l44, h⟩ := bs h
   refine zBq (fun p : Nat × (List zHl) × Nat => mkS 154 0 [(2, .osl ⟨5, 28⟩ (p.2.1.map zHl.c)), (4, .mptr 1 0), (66, .sl (p1.L.map zHm.c)), (67, .int .i64 p1.L.length), (68, .int .i64 p.2.2)] [(zHm.d p1), (zHl.d v2)]) (fun p => zAS (zAQ fuel) p1 v2 p.1 p.2.1 p.2.2 = some o43) (fun p => p.1) (fuel, l3, 0) l44 (zBO (by simp)) ?_
   rintro ⟨k45, l40, i41⟩ l44
   try dsimp only at l44 ⊢
   cases k45 with
   | zero =>
    rw [zAS] at l44; cases l44
   | succ k46 =>
    rw [zAS] at l44
    refine cutA 154 0 [(2, .osl ⟨5, 28⟩ (l40.map zHl.c)), (4, .mptr 1 0), (66, .sl (p1.L.map zHm.c)), (67, .int .i64 p1.L.length), (68, .int .i64 i41), (69, .bool (ltI ((i41 : Nat) : Int) (p1.L.length : Int)))] [(zHm.d p1), (zHl.d v2)] <| zAF <| spc l44 rfl (fun g47 l44 => ?_) fun g47 l44 => ?_
    ·have c48 := ltT g47
     refine zER 66 rfl fun f49 => ?_
     rw [List.length_map] at f49
     refine zAG <| zAd <| zAF <| zAL ?_
     obtain ⟨x50, q51, l44⟩ := bs l44
     refine cut 154 0 [(2, .osl ⟨5, 28⟩ (l40.map zHl.c)), (4, .mptr 1 0), (9, .int .i64 i41), (10, .mptr 2 0), (66, .sl (p1.L.map zHm.c)), (67, .int .i64 p1.L.length), (68, .int .i64 i41)] [(zHm.d p1), (zHl.d v2), (zHm.d x50)] (st (by simp [q51])) ?_
     obtain ⟨x52, q53, l44⟩ := bs l44
     obtain ⟨v54, q55, l44⟩ := bs l44
     refine cut 154 0 [(2, .osl ⟨5, 28⟩ (v54.1.map zHl.c)), (4, .mptr 1 0), (7, .bool v54.2.1), (8, .bool v54.2.2), (66, .sl (p1.L.map zHm.c)), (67, .int .i64 p1.L.length), (68, .int .i64 i41)] [(zHm.d p1), (zHl.d v2), (zHm.d x50)] ?_ ?_
     ·refine zA4 [997, 998] [7, 14] mixed (n := 154) rfl (by decide) (by decide) ?_
      simp [q53]
      have r60 := zD7 x50 x52 l40 v54 q55
      try simp [q53] at r60
      refine callXG 2 (.tmp 80) r60 (by first | rfl | simp) rfl rfl (by simp) (by simp) ?_
      simp [q53]
     refine cutA 154 0 [(2, .osl ⟨5, 28⟩ (v54.1.map zHl.c)), (4, .mptr 1 0), (8, .bool v54.2.2), (66, .sl (p1.L.map zHm.c)), (67, .int .i64 p1.L.length), (68, .int .i64 i41), (86, .bool (!v54.2.1))] [(zHm.d p1), (zHl.d v2), (zHm.d x50)] <| spc l44 rfl (fun g56 l44 => ?_) fun g56 l44 => ?_
     ·have g57 := notT g56
      refine cutA 154 0 [(6, .osl ⟨5, 28⟩ (([] : List zHl).map zHl.c)), (7, .bool false), (8, .bool v54.2.2)] [(zHm.d p1), (zHl.d v2), (zHm.d x50)] <| zAB <| zAY <| zAH ?_
      replace h := retL l44 h
      refine zAH <| zAY <| zAH <| zAY <| zAH ?_
      obtain rfl := oi h
      simp
     have g58 := notF g56
     refine zAG <| zEo <| zAd ?_
     have q59 : Rng .i64 (((i41 : Nat) : Int) + 1) := by simp only [Rng, inR]; omega
     try simp at q59
     refine last 154 0 [(2, .osl ⟨5, 28⟩ (v54.1.map zHl.c)), (4, .mptr 1 0), (66, .sl (p1.L.map zHm.c)), (67, .int .i64 p1.L.length), (68, .int .i64 ((i41 + 1 : Nat) : Int))] [(zHm.d p1), (zHl.d v2)] (st (by simp [q59])) fun zz hs => ?_
     exact ⟨(k46, v54.1, i41 + 1), hs, l44, by simp⟩
    have c61 := ltF g47
    refine zER 66 rfl fun f62 => ?_
    rw [List.length_map] at f62
    refine zBA <| zAX ?_
    rcases o43 with o43 | o42
    ·cases l44
    have q63 := Sum.inr.inj (Option.some.inj l44)
    replace h := elimR h
    have q63 := q63.symm
    refine zAX <| zBC <| zCL (t := mkS 154 0 [(2, .osl ⟨5, 28⟩ (o42.map zHl.c))] [(zHm.d p1), (zHl.d v2)]) ?_ (zBO (by simp [q63]))
    refine cutA 154 0 [(6, .osl ⟨5, 28⟩ (o42.map zHl.c)), (7, .bool true), (8, .bool false)] [(zHm.d p1), (zHl.d v2)] <| zAB <| zAY <| zAH ?_
    obtain rfl := oi h
    simp
  refine zAG <| zEo <| zAd <| zAF ?_
  obtain ⟨b78, q79, h⟩ := bs h
  refine cut 154 0 [(2, .osl ⟨5, 28⟩ (l3.map zHl.c)), (3, .mptr 0 0), (4, .mptr 1 0), (108, .bool b78)] [(zHm.d p1), (zHl.d v2)] ?_ ?_
  ·rcases sp q79 with ⟨g66, q79⟩ | ⟨g66, q79⟩
   ·have g67 := notT g66
    have c68 := eqF g67
    obtain rfl := oi q79
    refine st ?_
    simp [g66]
   have g69 := notF g66
   have c70 := eqT g69
   obtain ⟨x71, q72, q79⟩ := bs q79
   rcases sp q79 with ⟨g73, q79⟩ | ⟨g73, q79⟩
   ·have g74 := notT g73
    have c75 := eqF g74
    obtain rfl := oi q79
    refine st ?_
    simp [g66, q72, g73]
   have g76 := notF g73
   have c77 := eqT g76
   obtain rfl := oi q79
   refine st ?_
   simp [g66, q72, g73]
  refine spc h rfl (fun g80 h => ?_) fun g80 h => ?_
  ·refine cutA 154 0 [(6, .osl ⟨5, 28⟩ (([] : List zHl).map zHl.c)), (7, .bool false), (8, .bool true)] [(zHm.d p1), (zHl.d v2)] <| zAB <| zAH ?_
   obtain rfl := oi h
   simp
  refine zAG <| zAd ?_
  obtain ⟨x81, q82, h⟩ := bs h
  obtain ⟨x83, q84, h⟩ := bs h
  refine cut 154 0 [(2, .osl ⟨5, 28⟩ (l3.map zHl.c)), (3, .mptr 0 0), (11, .str x81.S), (12, .mptr 2 0)] [(zHm.d p1), (zHl.d v2), (zHl.d x83)] ?_ ?_
  ·refine zA4 [2] [14] mixed (n := 154) rfl (by decide) (by decide) ?_
   simp [q82, q84]
  refine zAF <| zAL <| cutA 154 0 [(2, .osl ⟨5, 28⟩ (l3.map zHl.c)), (3, .mptr 0 0), (12, .mptr 2 0), (121, .bool (!(eqS x81.S p1.S)))] [(zHm.d p1), (zHl.d v2), (zHl.d x83)] <| spc h rfl (fun g85 h => ?_) fun g85 h => ?_
  ·have g86 := notT g85
   refine cutA 154 0 [(6, .osl ⟨5, 28⟩ (([] : List zHl).map zHl.c)), (7, .bool false), (8, .bool false)] [(zHm.d p1), (zHl.d v2), (zHl.d x83)] <| zAB <| zAY <| zAH ?_
   obtain rfl := oi h
   simp
  have g87 := notF g85
  refine cutA 154 0 [(2, .osl ⟨5, 28⟩ (l3.map zHl.c)), (3, .mptr 0 0), (12, .mptr 2 0), (126, .bool (eqI (p1.L.length : Int) 0))] [(zHm.d p1), (zHl.d v2), (zHl.d x83)] <| spc h rfl (fun g88 h => ?_) fun g88 h => ?_
  ·have c89 := eqT g88
   refine cut 154 0 [(2, .osl ⟨5, 28⟩ (l3.map zHl.c)), (13, .bool ((eqI x83.Op 3) && (eqI (x83.L.length : Int) 0)))] [(zHm.d p1), (zHl.d v2), (zHl.d x83)] ?_ ?_
   ·rcases tf (eqI x83.Op 3) with g90 | g90
    ·have c91 := eqT g90
     refine st ?_
     simp [g90]
    have c92 := eqF g90
    refine st ?_
    simp [g90]
   refine cutA 154 0 [(6, .osl ⟨5, 28⟩ (l3.map zHl.c)), (7, .bool ((eqI x83.Op 3) && (eqI (x83.L.length : Int) 0))), (8, .bool (!((eqI x83.Op 3) && (eqI (x83.L.length : Int) 0))))] [(zHm.d p1), (zHl.d v2), (zHl.d x83)] <| zAB <| zAY <| zAH ?_
   obtain rfl := oi h
   simp
  have c93 := eqF g88
  refine zAG <| zEo <| zAd ?_
  obtain ⟨x94, q95, h⟩ := bs h
  obtain ⟨v96, q97, h⟩ := bs h
  refine cut 154 0 [(6, .osl ⟨5, 28⟩ (v96.1.map zHl.c)), (7, .bool v96.2.1), (8, .bool v96.2.2)] [(zHm.d p1), (zHl.d v2), (zHl.d x83)] ?_ ?_
  ·refine zA4 [997, 998] [6, 10, 11, 12] mixed (n := 154) rfl (by decide) (by decide) ?_
   simp [q95]
   have r98 := zD7 x94 x83 l3 v96 q97
   try simp [q95] at r98
   refine callXG 2 (.tmp 149) r98 (by first | rfl | simp) rfl rfl (by simp) (by simp) ?_
   simp [q95]
  refine zAB ?_
  obtain rfl := oi h
  simp
theorem zD2 (fuel : Nat) (p1 : zHm) (v2 : zHl) (r : (List zHl) × Bool × Int) (h : zBH fuel p1 v2 = some r) : Pure Tryz.prog 11 [.agg [.int .i64 p1.Op, .int .i64 p1.N, .str p1.S, .sl (p1.L.map zHm.c)], .agg [.int .i64 v2.Op, .int .i64 v2.N, .str v2.S, .sl (v2.Names.map cS), .sl (v2.L.map zHl.c)]] (.tup [.sl (r.1.map zHl.c), .bool r.2.1, .int .i64 r.2.2]) := by
 rw [zBH] at h
 refine zAC Tryz.func11 (by rfl) (by rfl) (by simp) (by simp) (by simp) <| cutA 31 0 [(2, .mptr 0 0), (3, .mptr 1 0)] [(zHm.d p1), (zHl.d v2)] <| zAF ?_
 obtain ⟨b10, q11, h⟩ := bs h
 refine cut 31 0 [(2, .mptr 0 0), (3, .mptr 1 0), (17, .bool b10)] [(zHm.d p1), (zHl.d v2)] ?_ ?_
 ·obtain ⟨v3, q4, q11⟩ := bs q11
  rcases sp q11 with ⟨g5, q11⟩ | ⟨g5, q11⟩
  ·have g6 := notT g5
   obtain rfl := oi q11
   refine st ?_
   simp [g5]
   have r20 := zBs fuel p1 v3 q4
   try simp [g5] at r20
   refine zAD r20 (by simp) rfl ?_
   simp [g5]
  have g7 := notF g5
  obtain ⟨v8, q9, q11⟩ := bs q11
  obtain rfl := oi q11
  refine st ?_
  simp [g5]
  have r21 := zBs fuel p1 v3 q4
  try simp [g5] at r21
  refine zAD r21 (by simp) rfl ?_
  simp [g5]
  have r22 := zG9 fuel v2 v8 q9
  try simp [g5] at r22
  refine zAD r22 (by simp) rfl ?_
  simp [g5]
 refine spc h rfl (fun g12 h => ?_) fun g12 h => ?_
 ·refine cutA 31 0 [(4, .osl ⟨5, 28⟩ (([] : List zHl).map zHl.c)), (5, .bool false), (6, .int .i64 1)] [(zHm.d p1), (zHl.d v2)] <| zAB <| zAH ?_
  obtain rfl := oi h
  simp
 refine zAG <| zAd ?_
 obtain ⟨v13, q14, h⟩ := bs h
 refine cut 31 0 [(7, .osl ⟨5, 28⟩ (v13.1.map zHl.c)), (8, .bool v13.2.1), (9, .bool v13.2.2)] [(zHm.d p1), (zHl.d v2)] ?_ ?_
 ·refine st ?_
  simp
  have r19 := zGC fuel p1 v2 ([] : List zHl) v13 q14
  try simp at r19
  refine callG 2 (.const (.slice none 0 0)) r19 (by first | rfl | simp) rfl rfl (by simp) (by simp) ?_
  simp
 refine zAF <| zAL <| cutA 31 0 [(7, .osl ⟨5, 28⟩ (v13.1.map zHl.c)), (8, .bool v13.2.1), (25, .bool v13.2.2)] [(zHm.d p1), (zHl.d v2)] <| spc h rfl (fun g15 h => ?_) fun g15 h => ?_
 ·refine cutA 31 0 [(4, .osl ⟨5, 28⟩ (([] : List zHl).map zHl.c)), (5, .bool false), (6, .int .i64 12)] [(zHm.d p1), (zHl.d v2)] <| zAB <| zAY <| zAH ?_
  obtain rfl := oi h
  simp
 refine cutA 31 0 [(7, .osl ⟨5, 28⟩ (v13.1.map zHl.c)), (27, .bool (!v13.2.1))] [(zHm.d p1), (zHl.d v2)] <| spc h rfl (fun g16 h => ?_) fun g16 h => ?_
 ·have g17 := notT g16
  refine cutA 31 0 [(4, .osl ⟨5, 28⟩ (([] : List zHl).map zHl.c)), (5, .bool false), (6, .int .i64 0)] [(zHm.d p1), (zHl.d v2)] <| zAB <| zAY <| zAH ?_
  obtain rfl := oi h
  simp
 have g18 := notF g16
 refine zAG <| zEo <| zAd <| cutA 31 0 [(4, .osl ⟨5, 28⟩ (v13.1.map zHl.c)), (5, .bool true), (6, .int .i64 0)] [(zHm.d p1), (zHl.d v2)] <| zAB ?_
 obtain rfl := oi h
 simp
theorem zD5 (fuel : Nat) (p1 : zHm) (q2 : zHm) (s3 : zHm) (v4 : zHl) (r : Bool) (h : zBY fuel p1 q2 s3 v4 = some r) : Pure Tryz.prog 3 [.agg [.int .i64 p1.Op, .int .i64 p1.N, .str p1.S, .sl (p1.L.map zHm.c)], .agg [.int .i64 q2.Op, .int .i64 q2.N, .str q2.S, .sl (q2.L.map zHm.c)], .agg [.int .i64 s3.Op, .int .i64 s3.N, .str s3.S, .sl (s3.L.map zHm.c)], .agg [.int .i64 v4.Op, .int .i64 v4.N, .str v4.S, .sl (v4.Names.map cS), .sl (v4.L.map zHl.c)]] (.bool r) := by
 rw [zBY] at h
 refine zAC Tryz.func3 (by rfl) (by rfl) (by simp) (by simp) (by simp) <| cutA 136 0 [(4, .mptr 0 0), (5, .mptr 1 0), (6, .mptr 2 0), (7, .mptr 3 0)] [(zHm.d p1), (zHm.d q2), (zHm.d s3), (zHl.d v4)] <| zAF ?_
 obtain ⟨v5, q6, h⟩ := bs h
 refine cut 136 0 [(4, .mptr 0 0), (5, .mptr 1 0), (6, .mptr 2 0), (7, .mptr 3 0), (24, .bool (!v5))] [(zHm.d p1), (zHm.d q2), (zHm.d s3), (zHl.d v4)] ?_ ?_
 ·refine st ?_
  simp
  have r151 := zHW v5 q6
  try simp at r151
  refine zAD r151 (by simp) rfl ?_
  simp
 refine spc h rfl (fun g7 h => ?_) fun g7 h => ?_
 ·have g8 := notT g7
  refine cutA 136 0 [(8, .bool false)] [(zHm.d p1), (zHm.d q2), (zHm.d s3), (zHl.d v4)] <| zAB <| zAH ?_
  obtain rfl := oi h
  simp
 have g9 := notF g7
 refine zAG <| zAd <| zAF ?_
 obtain ⟨b21, q22, h⟩ := bs h
 refine cut 136 0 [(4, .mptr 0 0), (5, .mptr 1 0), (6, .mptr 2 0), (7, .mptr 3 0), (38, .bool b21)] [(zHm.d p1), (zHm.d q2), (zHm.d s3), (zHl.d v4)] ?_ ?_
 ·obtain ⟨v10, q11, q22⟩ := bs q22
  rcases sp q22 with ⟨g12, q22⟩ | ⟨g12, q22⟩
  ·obtain rfl := oi q22
   refine st ?_
   simp [g12]
   have r141 := zBi fuel p1 v10 q11
   try simp [g12] at r141
   refine zAD r141 (by simp) rfl ?_
   simp [g12]
  obtain ⟨v13, q14, q22⟩ := bs q22
  rcases sp q22 with ⟨g15, q22⟩ | ⟨g15, q22⟩
  ·obtain rfl := oi q22
   refine st ?_
   simp [g12, g15]
   have r142 := zBi fuel p1 v10 q11
   try simp [g12, g15] at r142
   refine zAD r142 (by simp) rfl ?_
   simp [g12, g15]
   have r143 := zBi fuel q2 v13 q14
   try simp [g12, g15] at r143
   refine zAD r143 (by simp) rfl ?_
   simp [g12, g15]
  obtain ⟨v16, q17, q22⟩ := bs q22
  rcases sp q22 with ⟨g18, q22⟩ | ⟨g18, q22⟩
  ·obtain rfl := oi q22
   have g12x := g12
   try simp only [g15, g18] at g12x
   have g15x := g15
   try simp only [g12, g18] at g15x
   have g18x := g18
   try simp only [g12, g15] at g18x
   refine zCz <| WL.cut 2 136 0 [(4, .mptr 0 0), (5, .mptr 1 0), (6, .mptr 2 0), (7, .mptr 3 0), (26, .bool v10)] [(zHm.d p1), (zHm.d q2), (zHm.d s3), (zHl.d v4)] ?_ ?_
   ·simp [g12, g15, g18, g12x, g15x, g18x]
    have r144 := zBi fuel p1 v10 q11
    try simp [g12, g15, g18, g12x, g15x, g18x] at r144
    refine zAD r144 (by simp) rfl ?_
    simp [g12, g15, g18, g12x, g15x, g18x]
   refine WL.cut 3 136 0 [(4, .mptr 0 0), (5, .mptr 1 0), (6, .mptr 2 0), (7, .mptr 3 0), (27, .bool v10), (29, .bool v13)] [(zHm.d p1), (zHm.d q2), (zHm.d s3), (zHl.d v4)] ?_ ?_
   ·simp [g12, g15, g18, g12x, g15x, g18x]
    have r145 := zBi fuel q2 v13 q14
    try simp [g12, g15, g18, g12x, g15x, g18x] at r145
    refine zAD r145 (by simp) rfl ?_
    simp [g12, g15, g18, g12x, g15x, g18x]
   refine WL.cut 4 136 0 [(4, .mptr 0 0), (5, .mptr 1 0), (6, .mptr 2 0), (7, .mptr 3 0), (31, .bool v13), (33, .bool v16)] [(zHm.d p1), (zHm.d q2), (zHm.d s3), (zHl.d v4)] ?_ ?_
   ·simp [g12, g15, g18, g12x, g15x, g18x]
    have r146 := zBi fuel s3 v16 q17
    try simp [g12, g15, g18, g12x, g15x, g18x] at r146
    refine zAD r146 (by simp) rfl ?_
    simp [g12, g15, g18, g12x, g15x, g18x]
   refine WL.last ?_
   simp [g12, g15, g18, g12x, g15x, g18x]
  obtain ⟨v19, q20, q22⟩ := bs q22
  obtain rfl := oi q22
  have g12x := g12
  try simp only [g15, g18] at g12x
  have g15x := g15
  try simp only [g12, g18] at g15x
  have g18x := g18
  try simp only [g12, g15] at g18x
  refine zCz <| WL.cut 2 136 0 [(4, .mptr 0 0), (5, .mptr 1 0), (6, .mptr 2 0), (7, .mptr 3 0), (26, .bool v10)] [(zHm.d p1), (zHm.d q2), (zHm.d s3), (zHl.d v4)] ?_ ?_
  ·simp [g12, g15, g18, g12x, g15x, g18x]
   have r147 := zBi fuel p1 v10 q11
   try simp [g12, g15, g18, g12x, g15x, g18x] at r147
   refine zAD r147 (by simp) rfl ?_
   simp [g12, g15, g18, g12x, g15x, g18x]
  refine WL.cut 3 136 0 [(4, .mptr 0 0), (5, .mptr 1 0), (6, .mptr 2 0), (7, .mptr 3 0), (27, .bool v10), (29, .bool v13)] [(zHm.d p1), (zHm.d q2), (zHm.d s3), (zHl.d v4)] ?_ ?_
  ·simp [g12, g15, g18, g12x, g15x, g18x]
   have r148 := zBi fuel q2 v13 q14
   try simp [g12, g15, g18, g12x, g15x, g18x] at r148
   refine zAD r148 (by simp) rfl ?_
   simp [g12, g15, g18, g12x, g15x, g18x]
  refine WL.cut 4 136 0 [(4, .mptr 0 0), (5, .mptr 1 0), (6, .mptr 2 0), (7, .mptr 3 0), (31, .bool v13), (33, .bool v16)] [(zHm.d p1), (zHm.d q2), (zHm.d s3), (zHl.d v4)] ?_ ?_
  ·simp [g12, g15, g18, g12x, g15x, g18x]
   have r149 := zBi fuel s3 v16 q17
   try simp [g12, g15, g18, g12x, g15x, g18x] at r149
   refine zAD r149 (by simp) rfl ?_
   simp [g12, g15, g18, g12x, g15x, g18x]
  refine WL.cut 4 136 0 [(4, .mptr 0 0), (5, .mptr 1 0), (6, .mptr 2 0), (7, .mptr 3 0), (35, .bool v16), (37, .bool v19)] [(zHm.d p1), (zHm.d q2), (zHm.d s3), (zHl.d v4)] ?_ ?_
  ·simp [g12, g15, g18, g12x, g15x, g18x]
   have r150 := law20_huge_ok fuel v4 v19 q20
   try simp [g12, g15, g18, g12x, g15x, g18x] at r150
   refine zAD r150 (by simp) rfl ?_
   simp [g12, g15, g18, g12x, g15x, g18x]
  refine WL.last ?_
  simp [g12, g15, g18, g12x, g15x, g18x]
 refine spc h rfl (fun g23 h => ?_) fun g23 h => ?_
 ·refine cutA 136 0 [(8, .bool true)] [(zHm.d p1), (zHm.d q2), (zHm.d s3), (zHl.d v4)] <| zAB <| zAH ?_
  obtain rfl := oi h
  simp
 refine zAG <| zAd ?_
 obtain ⟨v24, q25, h⟩ := bs h
 refine cut 136 0 [(4, .mptr 0 0), (5, .mptr 1 0), (6, .mptr 2 0), (7, .mptr 3 0), (9, .bool v24.1), (10, .int .i64 v24.2)] [(zHm.d p1), (zHm.d q2), (zHm.d s3), (zHl.d v4)] ?_ ?_
 ·refine st ?_
  simp
  have r140 := zBP fuel p1 q2 v24 q25
  try simp at r140
  refine zAD r140 (by simp) rfl ?_
  simp
 refine zAF ?_
 obtain ⟨b33, q34, h⟩ := bs h
 refine cut 136 0 [(4, .mptr 0 0), (5, .mptr 1 0), (6, .mptr 2 0), (7, .mptr 3 0), (9, .bool v24.1), (10, .int .i64 v24.2), (52, .bool b33)] [(zHm.d p1), (zHm.d q2), (zHm.d s3), (zHl.d v4)] ?_ ?_
 ·obtain ⟨v26, q27, q34⟩ := bs q34
  rcases sp q34 with ⟨g28, q34⟩ | ⟨g28, q34⟩
  ·have g29 := notT g28
   obtain rfl := oi q34
   refine st ?_
   simp [g28]
   have r137 := zDd fuel p1 v26 q27
   try simp [g28] at r137
   refine zAD r137 (by simp) rfl ?_
   simp [g28]
  have g30 := notF g28
  obtain ⟨v31, q32, q34⟩ := bs q34
  obtain rfl := oi q34
  refine st ?_
  simp [g28]
  have r138 := zDd fuel p1 v26 q27
  try simp [g28] at r138
  refine zAD r138 (by simp) rfl ?_
  simp [g28]
  have r139 := zDd fuel q2 v31 q32
  try simp [g28] at r139
  refine zAD r139 (by simp) rfl ?_
  simp [g28]
 refine spc h rfl (fun g35 h => ?_) fun g35 h => ?_
 ·refine cut 136 0 [(8, .bool ((eqI v24.2 1) && (!v24.1)))] [(zHm.d p1), (zHm.d q2), (zHm.d s3), (zHl.d v4)] ?_ ?_
  ·rcases tf (eqI v24.2 1) with g36 | g36
   ·have c37 := eqT g36
    refine st ?_
    simp [g36]
   have c38 := eqF g36
   refine st ?_
   simp [g36]
  refine zAB <| zAH ?_
  obtain rfl := oi h
  simp
 refine zAG <| zAd <| zAF ?_
 obtain ⟨b46, q47, h⟩ := bs h
 refine cut 136 0 [(4, .mptr 0 0), (5, .mptr 1 0), (6, .mptr 2 0), (7, .mptr 3 0), (9, .bool v24.1), (67, .bool b46)] [(zHm.d p1), (zHm.d q2), (zHm.d s3), (zHl.d v4)] ?_ ?_
 ·rcases sp q47 with ⟨g39, q47⟩ | ⟨g39, q47⟩
  ·have g40 := notT g39
   have c41 := eqF g40
   obtain rfl := oi q47
   refine st ?_
   simp [g39]
  have g42 := notF g39
  have c43 := eqT g42
  obtain ⟨v44, q45, q47⟩ := bs q47
  obtain rfl := oi q47
  refine st ?_
  simp [g39]
  have r136 := zGh fuel p1 q2 v44 q45
  try simp [g39] at r136
  refine zAD r136 (by simp) rfl ?_
  simp [g39]
 refine spc h rfl (fun g48 h => ?_) fun g48 h => ?_
 ·refine cutA 136 0 [(8, .bool false)] [(zHm.d p1), (zHm.d q2), (zHm.d s3), (zHl.d v4)] <| zAB <| zAH ?_
  obtain rfl := oi h
  simp
 refine zAG <| zAd ?_
 obtain ⟨v49, q50, h⟩ := bs h
 refine cut 136 0 [(4, .mptr 0 0), (5, .mptr 1 0), (6, .mptr 2 0), (7, .mptr 3 0), (9, .bool v24.1), (11, .bool v49.1), (12, .int .i64 v49.2)] [(zHm.d p1), (zHm.d q2), (zHm.d s3), (zHl.d v4)] ?_ ?_
 ·refine st ?_
  simp
  have r135 := zBP fuel p1 p1 v49 q50
  try simp at r135
  refine zAD r135 (by simp) rfl ?_
  simp
 refine zAF <| cut 136 0 [(4, .mptr 0 0), (5, .mptr 1 0), (6, .mptr 2 0), (7, .mptr 3 0), (9, .bool v24.1), (79, .bool ((!(eqI v49.2 0)) || (!v49.1)))] [(zHm.d p1), (zHm.d q2), (zHm.d s3), (zHl.d v4)] ?_ ?_
 ·rcases tf (!(eqI v49.2 0)) with g51 | g51
  ·have g52 := notT g51
   have c53 := eqF g52
   refine st ?_
   simp [g51]
  have g54 := notF g51
  have c55 := eqT g54
  refine st ?_
  simp [g51]
 rcases sp h with ⟨g56, h⟩ | ⟨g56, h⟩
 ·refine zGU rfl g56 <| cutA 136 0 [(8, .bool false)] [(zHm.d p1), (zHm.d q2), (zHm.d s3), (zHl.d v4)] <| zAB <| zAH ?_
  obtain rfl := oi h
  simp
 obtain ⟨g57, g58⟩ := orF g56
 have g59 := notF g57
 have c60 := eqT g59
 have g61 := notF g58
 refine zGV rfl g56 <| zAG <| zAd <| zAF <| cutA 136 0 [(4, .mptr 0 0), (5, .mptr 1 0), (6, .mptr 2 0), (7, .mptr 3 0), (81, .bool (!v24.1))] [(zHm.d p1), (zHm.d q2), (zHm.d s3), (zHl.d v4)] <| spc h rfl (fun g62 h => ?_) fun g62 h => ?_
 ·have g63 := notT g62
  refine cutA 136 0 [(8, .bool true)] [(zHm.d p1), (zHm.d q2), (zHm.d s3), (zHl.d v4)] <| zAB <| zAH ?_
  obtain rfl := oi h
  simp
 have g64 := notF g62
 refine zAG <| zAd <| zAF ?_
 obtain ⟨v65, q66, h⟩ := bs h
 refine cut 136 0 [(4, .mptr 0 0), (5, .mptr 1 0), (6, .mptr 2 0), (7, .mptr 3 0), (14, .bool v65.2.1), (15, .int .i64 v65.2.2)] [(zHm.d p1), (zHm.d q2), (zHm.d s3), (zHl.d v4)] ?_ ?_
 ·refine st ?_
  simp
  have r134 := zD2 fuel q2 v4 v65 q66
  try simp at r134
  refine zAD r134 (by simp) rfl ?_
  simp
 refine cut 136 0 [(4, .mptr 0 0), (5, .mptr 1 0), (6, .mptr 2 0), (7, .mptr 3 0), (93, .bool ((eqI v65.2.2 0) && v65.2.1))] [(zHm.d p1), (zHm.d q2), (zHm.d s3), (zHl.d v4)] ?_ ?_
 ·rcases tf (eqI v65.2.2 0) with g67 | g67
  ·have c68 := eqT g67
   refine st ?_
   simp [g67]
  have c69 := eqF g67
  refine st ?_
  simp [g67]
 rcases sp h with ⟨g70, h⟩ | ⟨g70, h⟩
 ·obtain ⟨g71, g72⟩ := andT g70
  have c73 := eqT g71
  refine zGU rfl g70 ?_
  obtain ⟨v74, q75, h⟩ := bs h
  refine cut 136 0 [(4, .mptr 0 0), (5, .mptr 1 0), (6, .mptr 2 0), (17, .bool v74.2.1), (18, .int .i64 v74.2.2)] [(zHm.d p1), (zHm.d q2), (zHm.d s3), (zHl.d v4)] ?_ ?_
  ·refine st ?_
   simp
   have r110 := zD2 fuel p1 v4 v74 q75
   try simp at r110
   refine zAD r110 (by simp) rfl ?_
   simp
  refine cut 136 0 [(4, .mptr 0 0), (5, .mptr 1 0), (6, .mptr 2 0), (106, .bool ((!(eqI v74.2.2 0)) || (!v74.2.1)))] [(zHm.d p1), (zHm.d q2), (zHm.d s3), (zHl.d v4)] ?_ ?_
  ·rcases tf (!(eqI v74.2.2 0)) with g76 | g76
   ·have g77 := notT g76
    have c78 := eqF g77
    refine st ?_
    simp [g76]
   have g79 := notF g76
   have c80 := eqT g79
   refine st ?_
   simp [g76]
  rcases sp h with ⟨g81, h⟩ | ⟨g81, h⟩
  ·refine zGU rfl g81 <| cutA 136 0 [(8, .bool false)] [(zHm.d p1), (zHm.d q2), (zHm.d s3), (zHl.d v4)] <| zAB <| zAH ?_
   obtain rfl := oi h
   simp
  obtain ⟨g82, g83⟩ := orF g81
  have g84 := notF g82
  have c85 := eqT g84
  have g86 := notF g83
  refine zGV rfl g81 <| zAG <| zAd ?_
  obtain ⟨v87, q88, h⟩ := bs h
  refine cut 136 0 [(4, .mptr 0 0), (6, .mptr 2 0), (19, .bool v87.1), (20, .int .i64 v87.2)] [(zHm.d p1), (zHm.d q2), (zHm.d s3), (zHl.d v4)] ?_ ?_
  ·refine st ?_
   simp
   have r109 := zBP fuel q2 s3 v87 q88
   try simp at r109
   refine zAD r109 (by simp) rfl ?_
   simp
  refine zAF <| cut 136 0 [(4, .mptr 0 0), (6, .mptr 2 0), (20, .int .i64 v87.2), (118, .bool ((!(eqI v87.2 0)) || (!v87.1)))] [(zHm.d p1), (zHm.d q2), (zHm.d s3), (zHl.d v4)] ?_ ?_
  ·rcases tf (!(eqI v87.2 0)) with g89 | g89
   ·have g90 := notT g89
    have c91 := eqF g90
    refine st ?_
    simp [g89]
   have g92 := notF g89
   have c93 := eqT g92
   refine st ?_
   simp [g89]
  rcases sp h with ⟨g94, h⟩ | ⟨g94, h⟩
  ·refine zGU rfl g94 <| cut 136 0 [(8, .bool ((eqI v87.2 0) || (eqI v87.2 1)))] [(zHm.d p1), (zHm.d q2), (zHm.d s3), (zHl.d v4)] ?_ ?_
   ·rcases tf (eqI v87.2 0) with g95 | g95
    ·have c96 := eqT g95
     refine st ?_
     simp [g95]
    have c97 := eqF g95
    refine st ?_
    simp [g95]
   refine zAB <| zAH ?_
   obtain rfl := oi h
   simp
  obtain ⟨g98, g99⟩ := orF g94
  have g100 := notF g98
  have c101 := eqT g100
  have g102 := notF g99
  refine zGV rfl g94 <| zAG <| zAd ?_
  obtain ⟨v103, q104, h⟩ := bs h
  refine cut 136 0 [(21, .bool v103.1), (22, .int .i64 v103.2)] [(zHm.d p1), (zHm.d q2), (zHm.d s3), (zHl.d v4)] ?_ ?_
  ·refine st ?_
   simp
   have r108 := zBP fuel p1 s3 v103 q104
   try simp at r108
   refine zAD r108 (by simp) rfl ?_
   simp
  refine cut 136 0 [(8, .bool ((eqI v103.2 0) && v103.1))] [(zHm.d p1), (zHm.d q2), (zHm.d s3), (zHl.d v4)] ?_ ?_
  ·rcases tf (eqI v103.2 0) with g105 | g105
   ·have c106 := eqT g105
    refine st ?_
    simp [g105]
   have c107 := eqF g105
   refine st ?_
   simp [g105]
  refine zAB ?_
  obtain rfl := oi h
  simp
 refine zGV rfl g70 <| zAG <| zAd ?_
 obtain ⟨v111, q112, h⟩ := bs h
 refine cut 136 0 [(4, .mptr 0 0), (6, .mptr 2 0), (19, .bool v111.1), (20, .int .i64 v111.2)] [(zHm.d p1), (zHm.d q2), (zHm.d s3), (zHl.d v4)] ?_ ?_
 ·refine st ?_
  simp
  have r133 := zBP fuel q2 s3 v111 q112
  try simp at r133
  refine zAD r133 (by simp) rfl ?_
  simp
 refine zAF <| cut 136 0 [(4, .mptr 0 0), (6, .mptr 2 0), (20, .int .i64 v111.2), (118, .bool ((!(eqI v111.2 0)) || (!v111.1)))] [(zHm.d p1), (zHm.d q2), (zHm.d s3), (zHl.d v4)] ?_ ?_
 ·rcases tf (!(eqI v111.2 0)) with g113 | g113
  ·have g114 := notT g113
   have c115 := eqF g114
   refine st ?_
   simp [g113]
  have g116 := notF g113
  have c117 := eqT g116
  refine st ?_
  simp [g113]
 rcases sp h with ⟨g118, h⟩ | ⟨g118, h⟩
 ·refine zGU rfl g118 <| cut 136 0 [(8, .bool ((eqI v111.2 0) || (eqI v111.2 1)))] [(zHm.d p1), (zHm.d q2), (zHm.d s3), (zHl.d v4)] ?_ ?_
  ·rcases tf (eqI v111.2 0) with g119 | g119
   ·have c120 := eqT g119
    refine st ?_
    simp [g119]
   have c121 := eqF g119
   refine st ?_
   simp [g119]
  refine zAB <| zAH ?_
  obtain rfl := oi h
  simp
 obtain ⟨g122, g123⟩ := orF g118
 have g124 := notF g122
 have c125 := eqT g124
 have g126 := notF g123
 refine zGV rfl g118 <| zAG <| zAd ?_
 obtain ⟨v127, q128, h⟩ := bs h
 refine cut 136 0 [(21, .bool v127.1), (22, .int .i64 v127.2)] [(zHm.d p1), (zHm.d q2), (zHm.d s3), (zHl.d v4)] ?_ ?_
 ·refine st ?_
  simp
  have r132 := zBP fuel p1 s3 v127 q128
  try simp at r132
  refine zAD r132 (by simp) rfl ?_
  simp
 refine cut 136 0 [(8, .bool ((eqI v127.2 0) && v127.1))] [(zHm.d p1), (zHm.d q2), (zHm.d s3), (zHl.d v4)] ?_ ?_
 ·rcases tf (eqI v127.2 0) with g129 | g129
  ·have c130 := eqT g129
   refine st ?_
   simp [g129]
  have c131 := eqF g129
  refine st ?_
  simp [g129]
 refine zAB ?_
 obtain rfl := oi h
 simp
theorem zAf {α β : Type} (a : α) (f : α → Option β) : (some a).bind f = f a := Eq.trans (Option.bind_some a f) rfl
theorem chk64 {n : Int} (h1 : -9223372036854775808 ≤ n) (h2 : n ≤ 9223372036854775807) : chk .i64 n = some n := by rw [chk, if_pos]; exact ⟨h1, h2⟩
theorem zHf {α : Type} {b : Nat} {x y : List α} (h : 0 < b) (h2 : (x.length + y.length) * b ≤ 140737488355328) : app b x y = some (x ++ y) := by rw [app, if_pos ⟨h, h2⟩]
theorem idxN {α : Type} (l : List α) (i : Nat) : idx l (i : Int) = l[i]? := by rw [idx, if_pos (by omega)]; simp
theorem subT {α : Type} (s : List α) (n : Nat) (h : n ≤ s.length) : subC s 0 (n : Int) = some (s.take n) := by
 rw [subC, if_pos ⟨by omega, by omega, by omega⟩]
 simp [sub]
theorem ltN {i n : Nat} (h : ¬ i < n) : ¬ ltI (i : Int) (n : Int) = true := fun h' => by have := ltT h'; omega
theorem ltP {i n : Nat} (h : i < n) : ltI (i : Int) (n : Int) = true := decide_eq_true (by omega)
theorem zFq (P : UInt8 → Bool) (h : (List.range 256).all (fun n => P (UInt8.ofNat n)) = true) (c : UInt8) : P c = true := by
 have := List.all_eq_true.1 h c.toNat (List.mem_range.2 c.toNat_lt)
 simpa using this
def smB (c : UInt8) : Bool := decide (97 ≤ c.toNat) && decide (c.toNat ≤ 122)
def caB (c : UInt8) : Bool := decide (65 ≤ c.toNat) && decide (c.toNat ≤ 90)
def inU (c : UInt8) : Bool := smB c || caB c || (decide (48 ≤ c.toNat) && decide (c.toNat ≤ 57)) || decide (c.toNat = 95)
def nm (p : UInt8 → Bool) : List UInt8 → Bool
 | [] => false
 | c :: s => decide ((c :: s).length ≤ 24) && (p c && (c :: s).all inU)
theorem nm_cons (p : UInt8 → Bool) (c : UInt8) (s : List UInt8) : nm p (c :: s) = (decide ((c :: s).length ≤ 24) && (p c && (c :: s).all inU)) := rfl
theorem of_M (c : UInt8) : ∃ k, zCV c = some k ∧ ((eqI k 0 || eqI k 5) = !inU c) ∧ (eqI k 2 = caB c) ∧ (eqI k 1 = smB c) := by
 have h := zFq (fun c => match zCV c with | some k => ((eqI k 0 || eqI k 5) == !inU c) && ((eqI k 2 == caB c) && (eqI k 1 == smB c)) | none => false) (by kernel_rfl) c
 cases hk : zCV c with
 | none => rw [hk] at h; cases h
 | some k =>
  rw [hk] at h
  simp only [Bool.and_eq_true, beq_iff_eq] at h
  exact ⟨k, rfl, h.1, h.2.1, h.2.2⟩
theorem Inner_M (c : UInt8) : zCI c = some (inU c) := by
 have h := zFq (fun c => match zCI c with | some b => b == inU c | none => false) (by kernel_rfl) c
 cases hk : zCI c with
 | none => rw [hk] at h; cases h
 | some k => rw [hk] at h; rw [beq_iff_eq] at h; rw [h]
theorem Capital_M (c : UInt8) : zBU c = some (caB c) := by
 have h := zFq (fun c => match zBU c with | some b => b == caB c | none => false) (by kernel_rfl) c
 cases hk : zBU c with
 | none => rw [hk] at h; cases h
 | some k => rw [hk] at h; rw [beq_iff_eq] at h; rw [h]
theorem Small_M (c : UInt8) : zBw c = some (smB c) := by
 have h := zFq (fun c => match zBw c with | some b => b == smB c | none => false) (by kernel_rfl) c
 cases hk : zBw c with
 | none => rw [hk] at h; cases h
 | some k => rw [hk] at h; rw [beq_iff_eq] at h; rw [h]
theorem name_loop (l : List UInt8) : ∀ (n i k : Nat), i + n = l.length → n + 1 ≤ k → zBI l k i = some (if (l.drop i).all inU = true then .inr () else .inl false) := by
 intro n
 induction n with
 | zero =>
  intro i k hi hk
  obtain ⟨g, rfl⟩ : ∃ g, k = g + 1 := ⟨k - 1, by omega⟩
  rw [zBI, if_neg (ltN (by omega)), List.drop_eq_nil_of_le (by omega)]
  rfl
 | succ n ih =>
  intro i k hi hk
  obtain ⟨g, rfl⟩ : ∃ g, k = g + 1 := ⟨k - 1, by omega⟩
  have hx : l[i]? = some l[i] := List.getElem?_eq_getElem (by omega)
  rw [zBI, if_pos (ltP (by omega)), hx, List.drop_eq_getElem_cons (by omega), List.all_cons]
  generalize l[i] = c
  obtain ⟨z, z1, z2, _⟩ := of_M c
  simp only [zAf, z1, z2]
  cases inU c
  ·rfl
  ·simp only [Bool.not_true, Bool.false_eq_true, if_false, Bool.true_and]
   exact ih (i + 1) g (by omega) (by omega)
theorem name_M (s : List UInt8) (f : Int) (p : UInt8 → Bool) (hp : ∀ c k, zCV c = some k → eqI k f = p c) {fuel : Nat} (hf : 30 ≤ fuel) : zBx fuel s f = some (nm p s) := by
 rw [zBx]
 match s with
 | [] => rfl
 | c :: s =>
  rw [show eqS (c :: s) [] = false from decide_eq_false (by simp)]
  simp only [Bool.false_eq_true, if_false]
  by_cases hl : (c :: s).length ≤ 24
  ·rw [show ltI 24 ((c :: s).length : Int) = false from decide_eq_false (by omega)]
   obtain ⟨z, z1, _⟩ := of_M c
   simp only [Bool.false_eq_true, if_false, List.getElem?_cons_zero, zAf, z1, hp c z z1]
   have hu : nm p (c :: s) = (p c && (c :: s).all inU) := by rw [nm_cons, decide_eq_true hl, Bool.true_and]
   rw [hu]
   cases p c
   ·rfl
   ·simp only [Bool.not_true, Bool.false_eq_true, if_false, Bool.true_and]
    rw [bytesC, if_pos (by omega)]
    simp only [zAf]
    rw [name_loop (c :: s) (c :: s).length 0 fuel (by omega) (by omega), List.drop_zero]
    cases (c :: s).all inU <;> rfl
  ·rw [show ltI 24 ((c :: s).length : Int) = true from decide_eq_true (by omega)]
   have hu : nm p (c :: s) = false := by rw [nm_cons, decide_eq_false hl, Bool.false_and]
   rw [hu]; rfl
theorem name1 (s : List UInt8) {fuel : Nat} (hf : 30 ≤ fuel) : zBx fuel s 1 = some (nm smB s) := name_M s 1 smB (fun c k h => by
 obtain ⟨z, z1, _, _, z4⟩ := of_M c
 rw [z1] at h; cases h; exact z4) hf
theorem name2 (s : List UInt8) {fuel : Nat} (hf : 30 ≤ fuel) : zBx fuel s 2 = some (nm caB s) := name_M s 2 caB (fun c k h => by
 obtain ⟨z, z1, _, z3, _⟩ := of_M c
 rw [z1] at h; cases h; exact z3) hf
theorem inner_loop (l : List UInt8) : ∀ (n i k : Nat), i + n = l.length → n + 1 ≤ k → zA7 l k i = some (if (l.drop i).all inU = true then .inr () else .inl false) := by
 intro n
 induction n with
 | zero =>
  intro i k hi hk
  obtain ⟨g, rfl⟩ : ∃ g, k = g + 1 := ⟨k - 1, by omega⟩
  rw [zA7, if_neg (ltN (by omega)), List.drop_eq_nil_of_le (by omega)]
  rfl
 | succ n ih =>
  intro i k hi hk
  obtain ⟨g, rfl⟩ : ∃ g, k = g + 1 := ⟨k - 1, by omega⟩
  have hx : l[i]? = some l[i] := List.getElem?_eq_getElem (by omega)
  rw [zA7, if_pos (ltP (by omega)), hx, List.drop_eq_getElem_cons (by omega), List.all_cons]
  generalize l[i] = c
  simp only [zAf, Inner_M]
  cases inU c
  ·rfl
  ·simp only [Bool.not_true, Bool.false_eq_true, if_false, Bool.true_and]
   exact ih (i + 1) g (by omega) (by omega)
theorem inner_M (l : List UInt8) {fuel : Nat} (hf : l.length + 1 ≤ fuel) : zCq fuel l = some (l.all inU) := by
 rw [zCq, inner_loop l l.length 0 fuel (by omega) hf, List.drop_zero]
 cases l.all inU <;> rfl
theorem Word_M (s : List UInt8) {fuel : Nat} (hf : 30 ≤ fuel) : zCh fuel s = some (decide (1 ≤ s.length) && (decide (s.length ≤ 24) && s.all inU)) := by
 rw [zCh]
 by_cases h1 : 1 ≤ s.length
 ·rw [show leI 1 (s.length : Int) = true from decide_eq_true (by omega), decide_eq_true h1]
  by_cases h2 : s.length ≤ 24
  ·rw [show leI (s.length : Int) 24 = true from decide_eq_true (by omega), decide_eq_true h2, inner_M s (by omega)]; rfl
  ·rw [show leI (s.length : Int) 24 = false from decide_eq_false (by omega), decide_eq_false h2]; rfl
 ·rw [show leI 1 (s.length : Int) = false from decide_eq_false (by omega), decide_eq_false h1]; rfl
theorem nm_word (p : UInt8 → Bool) (c : UInt8) (s : List UInt8) : nm p (c :: s) = ((decide (1 ≤ (c :: s).length) && (decide ((c :: s).length ≤ 24) && (c :: s).all inU)) && p c) := by
 rw [nm_cons, decide_eq_true (show 1 ≤ (c :: s).length by simp)]
 cases decide ((c :: s).length ≤ 24) <;> cases p c <;> cases (c :: s).all inU <;> rfl
theorem IsUpper_M (s : List UInt8) {fuel : Nat} (hf : 30 ≤ fuel) : zB9 fuel s = some (nm caB s) := by rw [zB9, name2 s hf]; rfl
theorem Upper_M (s : List UInt8) {fuel : Nat} (hf : 30 ≤ fuel) : zB7 fuel s = some (nm caB s) := by
 rw [zB7, Word_M s hf]
 match s with
 | [] => rfl
 | c :: s =>
  rw [nm_word]
  simp only [zAf]
  cases (decide (1 ≤ (c :: s).length) && (decide ((c :: s).length ≤ 24) && (c :: s).all inU))
  ·rfl
  ·simp only [if_true, List.getElem?_cons_zero, zAf, Capital_M, Bool.true_and]
def KEYS : List (List UInt8) := (zDB).getD []
theorem KEYS_M : zDB = some KEYS := by kernel_rfl
theorem KEYS_len : KEYS.length = 31 := by kernel_rfl
def kw (s : List UInt8) : Bool := KEYS.any (fun w => decide (w = s))
theorem index_loop (l : List (List UInt8)) (v : List UInt8) : ∀ (n i k : Nat), i + n = l.length → n + 1 ≤ k → ∃ o, zAa l v k i = some o ∧ (((l.drop i).any (fun w => decide (w = v)) = true ∧ ∃ j : Nat, o = .inl (j : Int)) ∨ ((l.drop i).any (fun w => decide (w = v)) = false ∧ o = .inr ())) := by
 intro n
 induction n with
 | zero =>
  intro i k hi hk
  obtain ⟨g, rfl⟩ : ∃ g, k = g + 1 := ⟨k - 1, by omega⟩
  rw [zAa, if_neg (ltN (by omega)), List.drop_eq_nil_of_le (by omega)]
  exact ⟨_, rfl, .inr ⟨rfl, rfl⟩⟩
 | succ n ih =>
  intro i k hi hk
  obtain ⟨g, rfl⟩ : ∃ g, k = g + 1 := ⟨k - 1, by omega⟩
  have hx : l[i]? = some l[i] := List.getElem?_eq_getElem (by omega)
  rw [zAa, if_pos (ltP (by omega)), hx, List.drop_eq_getElem_cons (by omega), List.any_cons]
  generalize l[i] = c
  simp only [zAf]
  by_cases h : c = v
  ·rw [if_pos (show eqS v c = true from decide_eq_true h.symm), decide_eq_true h]
   exact ⟨_, rfl, .inl ⟨rfl, i, rfl⟩⟩
  ·rw [if_neg (show ¬ eqS v c = true from fun e => h (of_decide_eq_true e).symm), decide_eq_false h, Bool.false_or]
   exact ih (i + 1) g (by omega) (by omega)
theorem contains_M (l : List (List UInt8)) (v : List UInt8) {fuel : Nat} (hf : l.length + 1 ≤ fuel) : zAo fuel l v = some (l.any (fun w => decide (w = v))) := by
 obtain ⟨o, o1, o2⟩ := index_loop l v l.length 0 fuel (by omega) hf
 rw [zAo, zBW, o1]
 rw [List.drop_zero] at o2
 rcases o2 with ⟨h, j, rfl⟩ | ⟨h, rfl⟩
 ·rw [h]
  simp only [zAf, Sum.elim_inl]
  rw [show leI 0 (j : Int) = true from decide_eq_true (by omega)]
 ·rw [h]; rfl
theorem word_M (s : List UInt8) {fuel : Nat} (hf : 40 ≤ fuel) : zDD fuel s = some (kw s) := by
 have hF : ∀ t, zBa t = some KEYS → ((zBa t).bind fun v2 => (zAo fuel v2 s).bind fun v4 => some v4) = some (kw s) := fun t ht => by
  rw [ht]
  simp only [zAf]
  rw [contains_M KEYS s (by rw [KEYS_len]; omega)]; rfl
 rw [zDD]
 exact hF _ (by kernel_rfl)
def loS (s : List UInt8) : Bool := nm smB s && !kw s
theorem IsLower_M (s : List UInt8) {fuel : Nat} (hf : 40 ≤ fuel) : zCA fuel s = some (loS s) := by
 rw [zCA, name1 s (by omega)]
 unfold loS
 simp only [zAf]
 cases nm smB s
 ·rfl
 ·rw [if_pos rfl, word_M s hf]; rfl
theorem find_loop (l : List (List UInt8)) (v : List UInt8) : ∀ (n i k : Nat), i + n = l.length → n + 1 ≤ k → ∃ o, zBG l v k i = some o ∧ (((l.drop i).any (fun w => decide (w = v)) = true ∧ ∃ j : Nat, o = .inl (j : Int)) ∨ ((l.drop i).any (fun w => decide (w = v)) = false ∧ o = .inr ())) := by
 intro n
 induction n with
 | zero =>
  intro i k hi hk
  obtain ⟨g, rfl⟩ : ∃ g, k = g + 1 := ⟨k - 1, by omega⟩
  rw [zBG, if_neg (ltN (by omega)), List.drop_eq_nil_of_le (by omega)]
  exact ⟨_, rfl, .inr ⟨rfl, rfl⟩⟩
 | succ n ih =>
  intro i k hi hk
  obtain ⟨g, rfl⟩ : ∃ g, k = g + 1 := ⟨k - 1, by omega⟩
  have hx : l[i]? = some l[i] := List.getElem?_eq_getElem (by omega)
  rw [zBG, if_pos (ltP (by omega)), hx, List.drop_eq_getElem_cons (by omega), List.any_cons]
  generalize l[i] = c
  simp only [zAf]
  by_cases h : c = v
  ·rw [if_pos (show eqS c v = true from decide_eq_true h), decide_eq_true h]
   exact ⟨_, rfl, .inl ⟨rfl, i, rfl⟩⟩
  ·rw [if_neg (show ¬ eqS c v = true from fun e => h (of_decide_eq_true e)), decide_eq_false h, Bool.false_or]
   exact ih (i + 1) g (by omega) (by omega)
theorem Lower_M (s : List UInt8) {fuel : Nat} (hf : 40 ≤ fuel) : zB8 fuel s = some (loS s) := by
 rw [zB8, Word_M s (by omega)]
 unfold loS
 match s with
 | [] => rfl
 | c :: s =>
  rw [nm_word]
  simp only [zAf]
  cases (decide (1 ≤ (c :: s).length) && (decide ((c :: s).length ≤ 24) && (c :: s).all inU))
  ·rfl
  ·simp only [if_true, List.getElem?_cons_zero, zAf, Small_M, Bool.true_and]
   cases smB c
   ·rfl
   ·rw [if_pos rfl, KEYS_M]
    simp only [zAf, Bool.true_and]
    obtain ⟨o, o1, o2⟩ := find_loop KEYS (c :: s) KEYS.length 0 fuel (by omega) (by rw [KEYS_len]; omega)
    rw [zCi, o1]
    rw [List.drop_zero] at o2
    rcases o2 with ⟨h, j, rfl⟩ | ⟨h, rfl⟩
    ·have : kw (c :: s) = true := h
     rw [this]
     simp only [zAf, Sum.elim_inl]
     rw [show ltI (j : Int) 0 = false from decide_eq_false (by omega)]; rfl
    ·have : kw (c :: s) = false := h
     rw [this]; rfl
theorem dec_len (m : Nat) (hm : m < 10000000000000000) : (Lib.decDigits m).length ≤ 16 := by
 rw [Lib.decDigits_length]
 have h3 : ∀ j u, u < 10 ^ (j + 1) → Lib.nDigits u ≤ j + 1 := by
  intro j
  induction j with
  | zero => intro u hu; rw [Lib.nDigits_small (by simpa using hu)]; omega
  | succ j ihj =>
   intro u hu
   by_cases hu2 : u < 10
   ·rw [Lib.nDigits_small hu2]; omega
   ·have := ihj (u / 10) (by have : 10 ^ (j + 1 + 1) = 10 ^ (j + 1) * 10 := Nat.pow_succ ..; omega)
    rw [Lib.nDigits_big hu2]; omega
 exact h3 15 m (by omega)
theorem itoa_M (n : Nat) (h : n < 10000000000000000) : zB0 (n : Int) = some (Lib.decDigits n) := by
 have := dec_len n h
 have e : Lib.itoa (n : Int) = Lib.decDigits n := by unfold Lib.itoa; rw [if_neg (by omega)]; rfl
 rw [zB0, e, if_pos (by omega)]
def nds (p : zHm) : Nat := 1 + (p.L.map nds).sum
decreasing_by all_goals (cases p; simp only [zHm.mk.sizeOf_spec]; have := List.sizeOf_lt_of_mem ‹_›; simp only at this; omega)
theorem zGI (p : zHm) : nds p = 1 + (p.L.map nds).sum := by rw [nds]
def wt (p : zHm) : Nat := 100 + p.S.length + p.L.length + (p.L.map wt).sum
decreasing_by all_goals (cases p; simp only [zHm.mk.sizeOf_spec]; have := List.sizeOf_lt_of_mem ‹_›; simp only at this; omega)
theorem wt_eq (p : zHm) : wt p = 100 + p.S.length + p.L.length + (p.L.map wt).sum := by rw [wt]
theorem le_sum {α : Type} (f : α → Nat) : ∀ {l : List α} {x : α}, x ∈ l → f x ≤ (l.map f).sum
 | y :: l, x, h => by
  rw [List.map_cons, List.sum_cons]
  rcases List.mem_cons.1 h with rfl | h
  ·omega
  ·have := le_sum f h; omega
theorem zEb {α : Type} (f : α → Nat) (l : List α) (i : Nat) (h : i < l.length) : ((l.drop i).map f).sum = f l[i] + ((l.drop (i + 1)).map f).sum := by
 rw [List.drop_eq_getElem_cons h, List.map_cons, List.sum_cons]
theorem sum_le {α : Type} {f g : α → Nat} : ∀ {l : List α}, (∀ x, x ∈ l → f x ≤ g x) → (l.map f).sum ≤ (l.map g).sum
 | [], _ => by simp
 | y :: l, h => by
  simp only [List.map_cons, List.sum_cons]
  have h1 := h y (List.mem_cons_self ..)
  have h2 := sum_le (l := l) fun x hx => h x (List.mem_cons_of_mem _ hx)
  omega
theorem zFX {p x : zHm} (h : x ∈ p.L) : wt x + 100 + p.S.length + p.L.length ≤ wt p := by
 rw [wt_eq p]
 have := le_sum wt h
 omega
theorem zE1 {p x : zHm} (h : x ∈ p.L) : nds x + 1 ≤ nds p := by
 rw [zGI p]
 have := le_sum nds h
 omega
theorem zFr (p : zHm) : 100 + p.S.length + p.L.length ≤ wt p := by rw [wt_eq]; omega
theorem nds_pos (p : zHm) : 1 ≤ nds p := by rw [zGI]; omega
theorem zDO {T : zHm → Prop} (h : ∀ p, (∀ x, x ∈ p.L → T x) → T p) : ∀ p, T p := by
 have key : ∀ n p, wt p ≤ n → T p := by
  intro n
  induction n with
  | zero => intro p hp; have := zFr p; omega
  | succ n ih => exact fun p hp => h p fun x hx => ih x (by have := zFX hx; omega)
 exact fun p => key (wt p) p (Nat.le_refl _)
theorem nds_wt (p : zHm) : nds p ≤ wt p := by
 induction p using zDO with
 | h p ih =>
  rw [zGI, wt_eq]
  have := sum_le (f := nds) (g := wt) ih
  omega
theorem big_loop (p : zHm) (d : Int) (g : Nat) (hd : 0 ≤ d) (hd2 : d ≤ 50) (ih : ∀ x, x ∈ p.L → ∀ c : Int, 0 ≤ c → c ≤ 200 → ∃ v : Int, zAz g x (d + 1) c = some v ∧ 0 ≤ v ∧ (v ≤ 200 → v = c + nds x)) :
  ∀ (n i k : Nat) (a : Int), i + n = p.L.length → n + 1 ≤ k → 0 ≤ a → ∃ v : Int, zA8 (zAz g) p d k a i = some v ∧ 0 ≤ v ∧ (v ≤ 200 → v = a + ((p.L.drop i).map nds).sum) := by
 intro n
 induction n with
 | zero =>
  intro i k a hi hk ha
  obtain ⟨k, rfl⟩ : ∃ q, k = q + 1 := ⟨k - 1, by omega⟩
  rw [zA8, show ltI (i : Int) (p.L.length : Int) = false from decide_eq_false (by omega), List.drop_eq_nil_of_le (by omega)]
  exact ⟨a, rfl, ha, fun _ => by simp⟩
 | succ n ihn =>
  intro i k a hi hk ha
  obtain ⟨k, rfl⟩ : ∃ q, k = q + 1 := ⟨k - 1, by omega⟩
  have hx : p.L[i]? = some p.L[i] := List.getElem?_eq_getElem (by omega)
  rw [zA8, show ltI (i : Int) (p.L.length : Int) = true from decide_eq_true (by omega), zEb nds p.L i (by omega)]
  by_cases h2 : a ≤ 200
  ·rw [show leI a 200 = true from decide_eq_true h2, Bool.and_self, if_pos rfl, hx, zAf, chk64 (by omega) (by omega), zAf]
   obtain ⟨v, h3, h4, h5⟩ := ih p.L[i] (List.getElem_mem _) a ha h2
   rw [h3, zAf]
   obtain ⟨u, h6, h7, h8⟩ := ihn (i + 1) k v (by omega) (by omega) h4
   refine ⟨u, h6, h7, fun hu => ?_⟩
   have h9 := h8 hu
   have : v ≤ 200 := by omega
   rw [h9, h5 this]; omega
  ·rw [show leI a 200 = false from decide_eq_false h2]
   exact ⟨a, rfl, ha, fun h => absurd h h2⟩
theorem big_M (p : zHm) : ∀ (fuel : Nat) (d c : Int), wt p ≤ fuel → 0 ≤ d → d ≤ 51 → 0 ≤ c → c ≤ 200 → ∃ v : Int, zAz fuel p d c = some v ∧ 0 ≤ v ∧ (v ≤ 200 → v = c + nds p) := by
 induction p using zDO with
 | h p ih =>
  intro fuel d c hf hd hd2 hc hc2
  have hw := zFr p
  obtain ⟨g, rfl⟩ : ∃ g, fuel = g + 1 := ⟨fuel - 1, by omega⟩
  rw [zAz, chk64 (by omega) (by omega), zAf]
  split
  ·obtain ⟨k, rfl⟩ : ∃ k, g = k + 1 := ⟨g - 1, by omega⟩
   rw [zBc, show leI (1000 : Int) 200 = false from rfl, Bool.and_false]
   exact ⟨1000, rfl, by omega, fun h => by omega⟩
  ·rename_i hn
   have hd3 : d ≤ 50 := by
    rw [Bool.or_eq_true] at hn
    have : ¬ ltI 50 d = true := fun h => hn (.inl h)
    have := ltF (by simpa using this : ltI 50 d = false)
    omega
   obtain ⟨v, h1, h2, h3⟩ := big_loop p d g hd hd3 (fun x hx c hc hc2 => ih x hx g (d + 1) c (by have := zFX hx; omega) (by omega) (by omega) hc hc2) p.L.length 0 g (c + 1) (by omega) (by omega) (by omega)
   rw [h1, zAf]
   refine ⟨v, rfl, h2, fun hv => ?_⟩
   rw [h3 hv, zGI, List.drop_zero]; omega
theorem Big_M (p : zHm) {fuel : Nat} (hf : wt p ≤ fuel) : ∃ b, zCj fuel p = some b ∧ (b = false → nds p ≤ 200) := by
 obtain ⟨v, h1, h2, h3⟩ := big_M p fuel 1 0 hf (by omega) (by omega) (by omega) (by omega)
 rw [zCj, h1, zAf]
 refine ⟨_, rfl, fun h => ?_⟩
 have := ltF h
 have := h3 this
 omega
def nodeB (p : zHm) : Bool :=
 if p.Op = 1 then decide (p.L.length = 0) && (decide (p.N = 0) && decide (p.S = []))
 else if p.Op = 2 then decide (p.L.length = 0) && (decide (p.N = 0) && loS p.S)
 else if p.Op = 3 then decide (p.L.length = 0) && (decide (p.S = []) && (decide (-4503599627370496 ≤ p.N) && decide (p.N ≤ 4503599627370496)))
 else if p.Op = 4 then decide (p.L.length ≤ 1) && (decide (p.N = 0) && nm caB p.S)
 else if p.Op = 5 then !decide (p.L.length = 1) && (decide (p.L.length ≤ 9) && (decide (p.N = 0) && decide (p.S = [])))
 else false
theorem lenI (l : List zHm) (k : Nat) : eqI (l.length : Int) (k : Int) = decide (l.length = k) := by
 unfold eqI
 by_cases h : l.length = k
 ·rw [decide_eq_true h, decide_eq_true (by omega)]
 ·rw [decide_eq_false h, decide_eq_false (by omega)]
theorem lenL (l : List zHm) (k : Nat) : leI (l.length : Int) (k : Int) = decide (l.length ≤ k) := by
 unfold leI
 by_cases h : l.length ≤ k
 ·rw [decide_eq_true h, decide_eq_true (by omega)]
 ·rw [decide_eq_false h, decide_eq_false (by omega)]
theorem node_M (p : zHm) {fuel : Nat} (hf : 40 ≤ fuel) : zCT fuel p = some (nodeB p) := by
 have e0 := lenI p.L 0
 have e1 := lenI p.L 1
 have l1 := lenL p.L 1
 have l9 := lenL p.L 9
 rw [zCT]
 unfold nodeB
 rw [IsLower_M p.S hf, IsUpper_M p.S (by omega)]
 rw [show eqI (p.L.length : Int) 0 = decide (p.L.length = 0) from e0, show eqI (p.L.length : Int) 1 = decide (p.L.length = 1) from e1, show leI (p.L.length : Int) 1 = decide (p.L.length ≤ 1) from l1, show leI (p.L.length : Int) 9 = decide (p.L.length ≤ 9) from l9]
 by_cases h1 : p.Op = 1
 ·rw [if_pos (show eqI p.Op 1 = true from decide_eq_true h1), if_pos h1]; rfl
 rw [if_neg (show ¬ eqI p.Op 1 = true from fun h => h1 (eqT h)), if_neg h1]
 by_cases h2 : p.Op = 2
 ·rw [if_pos (show eqI p.Op 2 = true from decide_eq_true h2), if_pos h2]
  by_cases hl : p.L.length = 0
  ·by_cases hN : p.N = 0
   ·simp only [decide_eq_true hl, if_true, show eqI p.N 0 = true from decide_eq_true hN, zAf, decide_eq_true hN, Bool.true_and]
   ·simp only [decide_eq_true hl, if_true, show eqI p.N 0 = false from decide_eq_false hN, zAf, decide_eq_false hN, Bool.true_and, Bool.false_and, Bool.false_eq_true, if_false]
  ·simp only [decide_eq_false hl, zAf, Bool.false_and, Bool.false_eq_true, if_false]
 rw [if_neg (show ¬ eqI p.Op 2 = true from fun h => h2 (eqT h)), if_neg h2]
 by_cases h3 : p.Op = 3
 ·rw [if_pos (show eqI p.Op 3 = true from decide_eq_true h3), if_pos h3]; rfl
 rw [if_neg (show ¬ eqI p.Op 3 = true from fun h => h3 (eqT h)), if_neg h3]
 by_cases h4 : p.Op = 4
 ·rw [if_pos (show eqI p.Op 4 = true from decide_eq_true h4), if_pos h4]
  by_cases hl : p.L.length ≤ 1
  ·by_cases hN : p.N = 0
   ·simp only [decide_eq_true hl, if_true, show eqI p.N 0 = true from decide_eq_true hN, zAf, decide_eq_true hN, Bool.true_and]
   ·simp only [decide_eq_true hl, if_true, show eqI p.N 0 = false from decide_eq_false hN, zAf, decide_eq_false hN, Bool.true_and, Bool.false_and, Bool.false_eq_true, if_false]
  ·simp only [decide_eq_false hl, zAf, Bool.false_and, Bool.false_eq_true, if_false]
 rw [if_neg (show ¬ eqI p.Op 4 = true from fun h => h4 (eqT h)), if_neg h4]
 by_cases h5 : p.Op = 5
 ·rw [if_pos (show eqI p.Op 5 = true from decide_eq_true h5), if_pos h5]; rfl
 rw [if_neg (show ¬ eqI p.Op 5 = true from fun h => h5 (eqT h)), if_neg h5]
theorem rnode_M (p : zHm) {fuel : Nat} (hf : 40 ≤ fuel) : zC9 fuel p = some (nodeB p) := by
 have e0 := lenI p.L 0
 have e1 := lenI p.L 1
 have l1 := lenL p.L 1
 have l9 := lenL p.L 9
 rw [zC9]
 unfold nodeB
 rw [Lower_M p.S hf, Upper_M p.S (by omega)]
 rw [show eqI (p.L.length : Int) 0 = decide (p.L.length = 0) from e0, show eqI (p.L.length : Int) 1 = decide (p.L.length = 1) from e1, show leI (p.L.length : Int) 1 = decide (p.L.length ≤ 1) from l1, show leI (p.L.length : Int) 9 = decide (p.L.length ≤ 9) from l9]
 have hnil : nm caB [] = false := rfl
 have hnil2 : loS [] = false := rfl
 by_cases h1 : p.Op = 1
 ·by_cases hN : p.N = 0 <;> by_cases hS : p.S = [] <;> simp [eqI, eqS, leI, h1, hN, hS]
 by_cases h2 : p.Op = 2
 ·by_cases hN : p.N = 0 <;> cases loS p.S <;> simp [eqI, eqS, leI, h1, h2, hN]
 by_cases h3 : p.Op = 3
 ·by_cases hS : p.S = []
  ·by_cases hN : p.N = 0 <;> by_cases q1 : -4503599627370496 ≤ p.N <;> by_cases q2 : p.N ≤ 4503599627370496 <;> simp [eqI, eqS, leI, h1, h2, h3, hN, hS, q1, q2]
  ·by_cases hN : p.N = 0 <;> simp [eqI, eqS, leI, h1, h2, h3, hN, hS]
 by_cases h4 : p.Op = 4
 ·by_cases hN : p.N = 0 <;> cases nm caB p.S <;> simp [eqI, eqS, leI, h1, h2, h3, h4, hN]
 by_cases h5 : p.Op = 5
 ·by_cases hN : p.N = 0 <;> by_cases hS : p.S = [] <;> simp [eqI, eqS, leI, h1, h2, h3, h4, h5, hN, hS]
 ·by_cases hN : p.N = 0 <;> by_cases hS : p.S = [] <;> simp [eqI, eqS, leI, h1, h2, h3, h4, h5, hN, hS]
def nok (p : zHm) : Bool := nodeB p && (p.L.map nok).all id
decreasing_by all_goals (cases p; simp only [zHm.mk.sizeOf_spec]; have := List.sizeOf_lt_of_mem ‹_›; simp only at this; omega)
theorem nok_eq (p : zHm) : nok p = (nodeB p && (p.L.map nok).all id) := by rw [nok]
theorem nok_iff {p : zHm} : nok p = true ↔ nodeB p = true ∧ ∀ x, x ∈ p.L → nok x = true := by
 rw [nok_eq, Bool.and_eq_true, List.all_eq_true]
 exact and_congr_right fun _ => ⟨fun h x hx => h _ (List.mem_map.2 ⟨x, hx, rfl⟩), fun h y hy => by obtain ⟨x, hx, rfl⟩ := List.mem_map.1 hy; exact h x hx⟩
theorem measure_loop (p : zHm) (left d : Int) (g : Nat) (hp : (nds p : Int) ≤ left) (hl : left ≤ 20000) (hd0 : 0 ≤ d) (hd : d + nds p ≤ 401)
  (ih : ∀ x, x ∈ p.L → ∀ (l e : Int), (nds x : Int) ≤ l → l ≤ 20000 → 0 ≤ e → e + nds x ≤ 401 → zAm g x l e = some (if nok x = true then ((nds x : Int), true) else (0, false))) :
  ∀ (n i k m : Nat), i + n = p.L.length → n + 1 ≤ k → m + ((p.L.drop i).map nds).sum = nds p →
   zAk (zAm g) p left d k (m : Int) i = some (if ((p.L.drop i).map nok).all id = true then .inr ((nds p : Nat) : Int) else .inl (0, false)) := by
 intro n
 induction n with
 | zero =>
  intro i k m hi hk hm
  obtain ⟨k, rfl⟩ : ∃ q, k = q + 1 := ⟨k - 1, by omega⟩
  rw [List.drop_eq_nil_of_le (by omega)] at hm ⊢
  rw [zAk, if_neg (ltN (by omega))]
  simp only [List.map_nil, List.sum_nil, Nat.add_zero] at hm
  rw [hm]; rfl
 | succ n ihn =>
  intro i k m hi hk hm
  obtain ⟨k, rfl⟩ : ∃ q, k = q + 1 := ⟨k - 1, by omega⟩
  have hx : p.L[i]? = some p.L[i] := List.getElem?_eq_getElem (by omega)
  rw [zEb nds p.L i (by omega)] at hm
  have hmem : p.L[i] ∈ p.L := List.getElem_mem _
  have h1 := zE1 hmem
  rw [zAk, if_pos (ltP (by omega)), hx, zAf, chk64 (by omega) (by omega), zAf, chk64 (by omega) (by omega), zAf, ih p.L[i] hmem _ _ (by omega) (by omega) (by omega) (by omega), zAf]
  rw [List.drop_eq_getElem_cons (by omega), List.map_cons, List.all_cons]
  cases hn : nok p.L[i] with
  | false => rfl
  | true =>
   simp only [if_true, Bool.not_true, Bool.false_eq_true, if_false, id, Bool.true_and]
   rw [chk64 (by omega) (by omega), zAf]
   have := ihn (i + 1) k (m + nds p.L[i]) (by omega) (by omega) (by omega)
   rw [show (m : Int) + (nds p.L[i] : Int) = ((m + nds p.L[i] : Nat) : Int) by omega, this]
theorem measure_M (p : zHm) : ∀ (fuel : Nat) (left d : Int), wt p ≤ fuel → (nds p : Int) ≤ left → left ≤ 20000 → 0 ≤ d → d + nds p ≤ 401 → zAm fuel p left d = some (if nok p = true then ((nds p : Int), true) else (0, false)) := by
 induction p using zDO with
 | h p ih =>
  intro fuel left d hf h1 h2 h3 h4
  have hw := zFr p
  have hp := nds_pos p
  obtain ⟨g, rfl⟩ : ∃ g, fuel = g + 1 := ⟨fuel - 1, by omega⟩
  rw [zAm, if_neg (show ¬ leI left 0 = true from fun h => by have := leT h; omega), if_neg (show ¬ ltI 400 d = true from fun h => by have := ltT h; omega), node_M p (by omega), zAf, zAf, nok_eq]
  cases hn : nodeB p with
  | false => rfl
  | true =>
   have := measure_loop p left d g h1 h2 h3 h4 (fun x hx l e q1 q2 q3 q4 => ih x hx g l e (by have := zFX hx; omega) q1 q2 q3 q4) p.L.length 0 g 1 (by omega) (by omega) (by rw [List.drop_zero, zGI])
   rw [List.drop_zero] at this
   simp only [Bool.not_true, Bool.false_eq_true, if_false, Bool.true_and]
   rw [show (1 : Int) = ((1 : Nat) : Int) from rfl, this, zAf]
   cases (p.L.map nok).all id <;> rfl
theorem count_loop (p : zHm) (d : Int) (g : Nat) (hd : (nds p : Int) ≤ d) (hd2 : d ≤ 400)
  (ih : ∀ x, x ∈ p.L → ∀ (l e : Int), (nds x : Int) ≤ l → l ≤ 20000 → (nds x : Int) ≤ e → e ≤ 400 → zBF g x l e = some (if nok x = true then l - nds x else -1)) :
  ∀ (n i k : Nat) (l : Int), i + n = p.L.length → n + 1 ≤ k → (((p.L.drop i).map nds).sum : Int) ≤ l → l ≤ 20000 →
   zAx (zBF g) p d k l i = some (if ((p.L.drop i).map nok).all id = true then l - ((p.L.drop i).map nds).sum else -1) := by
 intro n
 induction n with
 | zero =>
  intro i k l hi hk hl hl2
  obtain ⟨k, rfl⟩ : ∃ q, k = q + 1 := ⟨k - 1, by omega⟩
  rw [List.drop_eq_nil_of_le (by omega)]
  rw [zAx, show ltI (i : Int) (p.L.length : Int) = false from decide_eq_false (by omega)]
  simp
 | succ n ihn =>
  intro i k l hi hk hl hl2
  obtain ⟨k, rfl⟩ : ∃ q, k = q + 1 := ⟨k - 1, by omega⟩
  have hx : p.L[i]? = some p.L[i] := List.getElem?_eq_getElem (by omega)
  rw [zEb nds p.L i (by omega)] at hl ⊢
  have hmem : p.L[i] ∈ p.L := List.getElem_mem _
  have h1 := zE1 hmem
  rw [zAx, show ltI (i : Int) (p.L.length : Int) = true from decide_eq_true (by omega), show leI 0 l = true from decide_eq_true (by omega), Bool.and_self, if_pos rfl, hx, zAf, chk64 (by omega) (by omega), zAf,
   ih p.L[i] hmem _ _ (by omega) hl2 (by omega) (by omega), zAf]
  rw [List.drop_eq_getElem_cons (by omega), List.map_cons, List.all_cons]
  cases hn : nok p.L[i] with
  | false =>
   simp only [Bool.false_eq_true, if_false, id, Bool.false_and]
   obtain ⟨k, rfl⟩ : ∃ q, k = q + 1 := ⟨k - 1, by omega⟩
   rw [zAx, show leI 0 (-1) = false from rfl, Bool.and_false]
   rfl
  | true =>
   simp only [if_true, id, Bool.true_and]
   rw [ihn (i + 1) k _ (by omega) (by omega) (by omega) (by omega)]
   congr 1
   split
   ·omega
   ·rfl
theorem count_M (p : zHm) : ∀ (fuel : Nat) (l e : Int), wt p ≤ fuel → (nds p : Int) ≤ l → l ≤ 20000 → (nds p : Int) ≤ e → e ≤ 400 → zBF fuel p l e = some (if nok p = true then l - nds p else -1) := by
 induction p using zDO with
 | h p ih =>
  intro fuel l e hf h1 h2 h3 h4
  have hw := zFr p
  have hp := nds_pos p
  obtain ⟨g, rfl⟩ : ∃ g, fuel = g + 1 := ⟨fuel - 1, by omega⟩
  rw [zBF, if_neg (show ¬ ltI l 1 = true from fun h => by have := ltT h; omega), if_neg (show ¬ ltI e 1 = true from fun h => by have := ltT h; omega), rnode_M p (by omega), zAf, zAf, nok_eq]
  cases hn : nodeB p with
  | false => rfl
  | true =>
   have hs : nds p = 1 + (p.L.map nds).sum := zGI p
   have := count_loop p e g h3 h4 (fun x hx l e q1 q2 q3 q4 => ih x hx g l e (by have := zFX hx; omega) q1 q2 q3 q4) p.L.length 0 g (l - 1) (by omega) (by omega) (by rw [List.drop_zero]; omega) (by omega)
   rw [List.drop_zero] at this
   simp only [Bool.not_true, Bool.false_eq_true, if_false, Bool.true_and]
   rw [chk64 (by omega) (by omega), zAf, this, zAf]
   congr 1
   split
   ·omega
   ·rfl
def vrs (p : zHm) : List (List UInt8) := (if p.Op = 2 then [p.S] else []) ++ (p.L.map vrs).flatten
decreasing_by all_goals (cases p; simp only [zHm.mk.sizeOf_spec]; have := List.sizeOf_lt_of_mem ‹_›; simp only at this; omega)
theorem vrs_eq (p : zHm) : vrs p = (if p.Op = 2 then [p.S] else []) ++ (p.L.map vrs).flatten := by rw [vrs]
theorem flat_len {α β : Type} (f : α → List β) : ∀ l : List α, ((l.map f).flatten).length = (l.map fun x => (f x).length).sum
 | [] => rfl
 | x :: l => by simp only [List.map_cons, List.flatten_cons, List.length_append, List.sum_cons, flat_len f l]
theorem vrs_len (p : zHm) : (vrs p).length ≤ nds p := by
 induction p using zDO with
 | h p ih =>
  rw [vrs_eq, zGI, List.length_append, flat_len]
  have := sum_le (f := fun x => (vrs x).length) (g := nds) ih
  split <;> simp <;> omega
theorem zFo {β : Type} (f : zHm → List β) (l : List zHm) (i : Nat) (h : i < l.length) : ((l.drop i).map f).flatten = f l[i] ++ ((l.drop (i + 1)).map f).flatten := by
 rw [List.drop_eq_getElem_cons h, List.map_cons, List.flatten_cons]
theorem nok_var {p : zHm} (h : nok p = true) (h2 : p.Op = 2) : p.L = [] := by
 have := (nok_iff.1 h).1
 unfold nodeB at this
 rw [if_neg (by omega), if_pos h2, Bool.and_eq_true] at this
 exact List.eq_nil_of_length_eq_zero (of_decide_eq_true this.1)
def stp (q : Bool × List (List UInt8 × Bool)) (s : List UInt8) : Bool × List (List UInt8 × Bool) := (q.1 && !(mgetD q.2 s false), mput q.2 s true)
theorem vv_loop1 (p : zHm) (g : Nat) (ih : ∀ x, x ∈ p.L → ∀ (q : Bool × List (List UInt8 × Bool)), zAE g x q.1 q.2 = some ((vrs x).foldl stp q)) :
  ∀ (n i k : Nat) (q : Bool × List (List UInt8 × Bool)), i + n = p.L.length → n + 1 ≤ k → zAP (zAE g) p k q.1 q.2 i = some (((p.L.drop i).map vrs).flatten.foldl stp q) := by
 intro n
 induction n with
 | zero =>
  intro i k q hi hk
  obtain ⟨k, rfl⟩ : ∃ q, k = q + 1 := ⟨k - 1, by omega⟩
  rw [List.drop_eq_nil_of_le (by omega), zAP, if_neg (ltN (by omega))]; rfl
 | succ n ihn =>
  intro i k q hi hk
  obtain ⟨k, rfl⟩ : ∃ q, k = q + 1 := ⟨k - 1, by omega⟩
  have hx : p.L[i]? = some p.L[i] := List.getElem?_eq_getElem (by omega)
  rw [zAP, if_pos (ltP (by omega)), hx, zAf, ih _ (List.getElem_mem _) q, zAf, ihn (i + 1) k _ (by omega) (by omega), zFo vrs p.L i (by omega), List.foldl_append]
theorem vv_loop2 (p : zHm) (g : Nat) (ih : ∀ x, x ∈ p.L → ∀ (q : Bool × List (List UInt8 × Bool)), zAE g x q.1 q.2 = some ((vrs x).foldl stp q)) :
  ∀ (n i k : Nat) (q : Bool × List (List UInt8 × Bool)), i + n = p.L.length → n + 1 ≤ k → zAR (zAE g) p k q.1 q.2 i = some (((p.L.drop i).map vrs).flatten.foldl stp q) := by
 intro n
 induction n with
 | zero =>
  intro i k q hi hk
  obtain ⟨k, rfl⟩ : ∃ q, k = q + 1 := ⟨k - 1, by omega⟩
  rw [List.drop_eq_nil_of_le (by omega), zAR, if_neg (ltN (by omega))]; rfl
 | succ n ihn =>
  intro i k q hi hk
  obtain ⟨k, rfl⟩ : ∃ q, k = q + 1 := ⟨k - 1, by omega⟩
  have hx : p.L[i]? = some p.L[i] := List.getElem?_eq_getElem (by omega)
  rw [zAR, if_pos (ltP (by omega)), hx, zAf, ih _ (List.getElem_mem _) q, zAf, ihn (i + 1) k _ (by omega) (by omega), zFo vrs p.L i (by omega), List.foldl_append]
theorem vv_M (p : zHm) : ∀ (fuel : Nat) (q : Bool × List (List UInt8 × Bool)), wt p ≤ fuel → zAE fuel p q.1 q.2 = some ((vrs p).foldl stp q) := by
 induction p using zDO with
 | h p ih =>
  intro fuel q hf
  have hw := zFr p
  obtain ⟨g, rfl⟩ : ∃ g, fuel = g + 1 := ⟨fuel - 1, by omega⟩
  have ih' : ∀ x, x ∈ p.L → ∀ (q : Bool × List (List UInt8 × Bool)), zAE g x q.1 q.2 = some ((vrs x).foldl stp q) := fun x hx q => ih x hx g q (by have := zFX hx; omega)
  rw [zAE, vrs_eq]
  by_cases h2 : p.Op = 2
  ·have := vv_loop1 p g ih' p.L.length 0 g (stp q p.S) (by omega) (by omega)
   rw [List.drop_zero] at this
   rw [if_pos (show eqI p.Op 2 = true from decide_eq_true h2), if_pos h2, zCC, zAf]
   show (zAP (zAE g) p g (stp q p.S).1 (stp q p.S).2 0).bind _ = _
   rw [this, zAf]; rfl
  ·have := vv_loop2 p g ih' p.L.length 0 g q (by omega) (by omega)
   rw [List.drop_zero] at this
   rw [if_neg (show ¬ eqI p.Op 2 = true from fun h => h2 (eqT h)), if_neg h2, this, zAf]; rfl
theorem mget_put (m : List (List UInt8 × Bool)) (k k' : List UInt8) : mgetD (mput m k true) k' false = if k' = k then true else mgetD m k' false := by
 induction m with
 | nil =>
  simp only [mput, mgetD]
  by_cases h : k' = k <;> simp [h]
 | cons q m ih =>
  simp only [mput]
  by_cases h1 : k = q.1
  ·rw [if_pos (by simpa using h1)]
   simp only [mgetD]
   by_cases h2 : k' = q.1
   ·rw [if_pos (by simpa using h2), if_pos (by rw [h2, h1])]
   ·rw [if_neg (by simpa using h2), if_neg (by rw [h1]; exact h2), if_neg (by simpa using h2)]
  ·rw [if_neg (by simpa using h1)]
   simp only [mgetD]
   by_cases h2 : k' = q.1
   ·rw [if_pos (by simpa using h2), if_neg (by rw [h2]; exact fun e => h1 e.symm), if_pos (by simpa using h2)]
   ·have hb : ¬ (k' == q.1) = true := by simpa using h2
    simp only [if_neg hb]
    exact ih
theorem fold_iff : ∀ (l : List (List UInt8)) (c : Bool) (m : List (List UInt8 × Bool)) (K : List (List UInt8)), (∀ k, mgetD m k false = decide (k ∈ K)) → ((l.foldl stp (c, m)).1 = true ↔ c = true ∧ l.Nodup ∧ ∀ s, s ∈ l → s ∉ K)
 | [], c, m, K, h => by simp
 | s :: l, c, m, K, h => by
  have hK : ∀ k, mgetD (mput m s true) k false = decide (k ∈ s :: K) := fun k => by
   rw [mget_put, h k]
   by_cases hk : k = s
   ·rw [if_pos hk, decide_eq_true (by rw [hk]; exact List.mem_cons_self ..)]
   ·rw [if_neg hk]
    by_cases hm : k ∈ K
    ·rw [decide_eq_true hm, decide_eq_true (List.mem_cons_of_mem _ hm)]
    ·rw [decide_eq_false hm, decide_eq_false (fun e => (List.mem_cons.1 e).elim hk hm)]
  have ih := fold_iff l (c && !(mgetD m s false)) (mput m s true) (s :: K) hK
  rw [List.foldl_cons]
  show (l.foldl stp (c && !(mgetD m s false), mput m s true)).1 = true ↔ _
  rw [ih, h s, List.nodup_cons]
  simp only [Bool.and_eq_true, Bool.not_eq_true', decide_eq_false_iff_not, List.mem_cons, not_or]
  constructor
  ·rintro ⟨⟨h1, h2⟩, h3, h4⟩
   refine ⟨h1, ⟨fun hm => (h4 s hm).1 rfl, h3⟩, fun t ht => ?_⟩
   rcases ht with rfl | ht
   ·exact h2
   ·exact (h4 t ht).2
  ·rintro ⟨h1, ⟨h2, h3⟩, h4⟩
   exact ⟨⟨h1, h4 s (.inl rfl)⟩, h3, fun t ht => ⟨fun e => h2 (by rw [← e]; exact ht), h4 t (.inr ht)⟩⟩
def vld (p : zHm) : Bool := nok p && decide (vrs p).Nodup
theorem Valid_M (p : zHm) {fuel : Nat} (hf : wt p ≤ fuel) (hs : nds p ≤ 200) : zBV fuel p = some (vld p) := by
 rw [zBV, measure_M p fuel 20000 1 hf (by omega) (by omega) (by omega) (by omega), zAf]
 unfold vld
 cases hn : nok p with
 | false => rfl
 | true =>
  simp only [if_true, Bool.not_true, Bool.false_eq_true, if_false, Bool.true_and]
  have h1 := vv_M p fuel (true, []) hf
  have h2 := fold_iff (vrs p) true [] [] (fun k => by simp [mgetD])
  simp only at h1
  rw [h1, zAf]
  congr 1
  rw [Bool.eq_iff_iff, h2, decide_eq_true_iff]
  exact ⟨fun h => h.2.1, fun h => ⟨rfl, h, fun _ _ e => by cases e⟩⟩
theorem rv_loop (p : zHm) (g : Nat) (ih : ∀ x, x ∈ p.L → ∀ c : List (List UInt8), c.length + (vrs x).length ≤ 1000 → zBK g c x = some (c ++ vrs x)) :
  ∀ (n i k : Nat) (c : List (List UInt8)), i + n = p.L.length → n + 1 ≤ k → c.length + (((p.L.drop i).map vrs).flatten).length ≤ 1000 → zBE (zBK g) p k c i = some (c ++ ((p.L.drop i).map vrs).flatten) := by
 intro n
 induction n with
 | zero =>
  intro i k c hi hk hc
  obtain ⟨k, rfl⟩ : ∃ q, k = q + 1 := ⟨k - 1, by omega⟩
  rw [List.drop_eq_nil_of_le (by omega), zBE, if_neg (ltN (by omega))]; simp
 | succ n ihn =>
  intro i k c hi hk hc
  obtain ⟨k, rfl⟩ : ∃ q, k = q + 1 := ⟨k - 1, by omega⟩
  have hx : p.L[i]? = some p.L[i] := List.getElem?_eq_getElem (by omega)
  rw [zFo vrs p.L i (by omega), List.length_append] at hc
  rw [zBE, if_pos (ltP (by omega)), hx, zAf, ih _ (List.getElem_mem _) c (by omega), zAf, ihn (i + 1) k _ (by omega) (by omega) (by rw [List.length_append]; omega), zFo vrs p.L i (by omega), List.append_assoc]
theorem rv_M (p : zHm) : ∀ (fuel : Nat) (c : List (List UInt8)), wt p ≤ fuel → nok p = true → c.length + (vrs p).length ≤ 1000 → zBK fuel c p = some (c ++ vrs p) := by
 induction p using zDO with
 | h p ih =>
  intro fuel c hf hn hc
  have hw := zFr p
  obtain ⟨g, rfl⟩ : ∃ g, fuel = g + 1 := ⟨fuel - 1, by omega⟩
  have ih' : ∀ x, x ∈ p.L → ∀ c : List (List UInt8), c.length + (vrs x).length ≤ 1000 → zBK g c x = some (c ++ vrs x) := fun x hx c h => ih x hx g c (by have := zFX hx; omega) ((nok_iff.1 hn).2 x hx) h
  rw [vrs_eq] at hc ⊢
  rw [zBK]
  by_cases h2 : p.Op = 2
  ·have hl := nok_var hn h2
   rw [if_pos h2, hl] at hc ⊢
   simp only [List.map_nil, List.flatten_nil, List.append_nil, List.length_cons, List.length_nil] at hc ⊢
   rw [if_pos (show eqI p.Op 2 = true from decide_eq_true h2), zHf (by decide) (by simp; omega), zAf, List.nil_append, zHf (by decide) (by simp; omega), zAf]
  ·rw [if_neg h2] at hc ⊢
   have := rv_loop p g ih' p.L.length 0 g c (by omega) (by omega) (by rw [List.drop_zero]; simpa using hc)
   rw [List.drop_zero] at this
   rw [if_neg (show ¬ eqI p.Op 2 = true from fun h => h2 (eqT h)), this, zAf]; rfl
theorem RVars_M (p : zHm) {fuel : Nat} (hf : wt p ≤ fuel) (hs : nds p ≤ 200) (hn : nok p = true) : zDA fuel p = some (vrs p) := by
 have := vrs_len p
 rw [zDA, rv_M p fuel [] hf hn (by simp; omega), zAf]; rfl
theorem dup_loop (v : List (List UInt8)) (fuel : Nat) (hf : v.length + 1 ≤ fuel) : ∀ (n i k : Nat), i + n = v.length → n + 1 ≤ k → ∃ o, zA6 fuel v k i = some o ∧
  ((o = .inr () ∧ ∀ (j : Nat) (h : j < v.length), i ≤ j → v[j] ∉ v.take j) ∨ (o = .inl false ∧ ∃ (j : Nat) (h : j < v.length), v[j] ∈ v.take j)) := by
 intro n
 induction n with
 | zero =>
  intro i k hi hk
  obtain ⟨k, rfl⟩ : ∃ q, k = q + 1 := ⟨k - 1, by omega⟩
  rw [zA6, if_neg (ltN (by omega))]
  exact ⟨_, rfl, .inl ⟨rfl, fun j h hj => by omega⟩⟩
 | succ n ihn =>
  intro i k hi hk
  obtain ⟨k, rfl⟩ : ∃ q, k = q + 1 := ⟨k - 1, by omega⟩
  have hx : v[i]? = some v[i] := List.getElem?_eq_getElem (by omega)
  obtain ⟨o, o1, o2⟩ := find_loop (v.take i) v[i] (v.take i).length 0 fuel (by omega) (by simp; omega)
  rw [zA6, if_pos (ltP (by omega)), subT v i (by omega), zAf, hx, zAf, zCi, o1]
  rw [List.drop_zero] at o2
  rcases o2 with ⟨h, j, rfl⟩ | ⟨h, rfl⟩
  ·simp only [zAf, Sum.elim_inl]
   rw [if_pos (show leI 0 (j : Int) = true from decide_eq_true (by omega))]
   rw [List.any_eq_true] at h
   obtain ⟨w, hw, he⟩ := h
   exact ⟨_, rfl, .inr ⟨rfl, i, by omega, by rw [← of_decide_eq_true he]; exact hw⟩⟩
  ·simp only [zAf, Sum.elim_inr]
   rw [if_neg (show ¬ leI 0 (-1) = true by decide)]
   obtain ⟨o, o3, o4⟩ := ihn (i + 1) k (by omega) (by omega)
   refine ⟨o, o3, ?_⟩
   rcases o4 with ⟨q1, q2⟩ | ⟨q1, q2⟩
   ·refine .inl ⟨q1, fun j hj hij => ?_⟩
    by_cases e : j = i
    ·subst e
     intro hm
     have : (v.take j).any (fun w => decide (w = v[j])) = true := List.any_eq_true.2 ⟨_, hm, decide_eq_true rfl⟩
     rw [h] at this; cases this
    ·exact q2 j hj (by omega)
   ·exact .inr ⟨q1, q2⟩
theorem nodup_take (v : List (List UInt8)) : v.Nodup ↔ ∀ (j : Nat) (h : j < v.length), v[j] ∉ v.take j := by
 unfold List.Nodup
 rw [List.pairwise_iff_getElem]
 constructor
 ·intro h j hj hm
  obtain ⟨i, hi, e⟩ := List.getElem_of_mem hm
  have hij : i < j := by simp at hi; omega
  rw [List.getElem_take] at e
  exact h i j (by omega) hj hij e
 ·intro h i j hi hj hij e
  refine h j hj ?_
  rw [← e, List.mem_take_iff_getElem]
  exact ⟨i, by omega, rfl⟩
theorem RValid_M (p : zHm) {fuel : Nat} (hf : wt p ≤ fuel) (hs : nds p ≤ 200) : zCH fuel p = some (vld p) := by
 have hp := nds_pos p
 have hw := nds_wt p
 have hl := vrs_len p
 have ho := zFr p
 rw [zCH, count_M p fuel 20000 400 hf (by omega) (by omega) (by omega) (by omega), zAf]
 unfold vld
 cases hn : nok p with
 | false => rfl
 | true =>
  simp only [if_true, Bool.true_and]
  rw [if_neg (show ¬ ltI (20000 - (nds p : Int)) 0 = true from fun h => by have := ltT h; omega), RVars_M p hf hs hn, zAf]
  have hlen : (vrs p).length + 1 ≤ wt p := by
   have := vrs_len p
   have h1 : nds p + 1 ≤ wt p := by
    rw [zGI, wt_eq]
    have := sum_le (f := nds) (g := wt) (l := p.L) (fun x _ => nds_wt x)
    omega
   omega
  obtain ⟨o, o1, o2⟩ := dup_loop (vrs p) fuel (by omega) (vrs p).length 0 fuel (by omega) (by omega)
  rw [o1, zAf]
  rcases o2 with ⟨rfl, h⟩ | ⟨rfl, j, hj, h⟩
  ·rw [decide_eq_true ((nodup_take _).2 fun j hj => h j hj (by omega))]; rfl
  ·rw [decide_eq_false (fun e => (nodup_take _).1 e j hj h)]; rfl
end Go.Proofs.YtlekkicnlddhlaaGreatDoor
