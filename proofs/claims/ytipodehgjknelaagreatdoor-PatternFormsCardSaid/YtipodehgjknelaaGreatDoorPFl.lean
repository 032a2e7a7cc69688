/- PatternForms: for every input the law returns true. Part 12 of 18. No condition. -/
import Derived.Test.YtipodehgjknelaaGreatDoorPFk
import Derived.Lib.Builder
import Derived.Lib.UnsafeStr
import Derived.Laws.Externs
set_option linter.unusedVariables false
set_option linter.unnecessarySimpa false
set_option linter.unusedSimpArgs false
set_option maxRecDepth 100000
set_option maxHeartbeats 1000000
namespace Go.Proofs.YtipodehgjknelaaGreatDoor
open Go Go.Abs Go.Proofs
theorem zGk (b : Nat) (w : World) (h0 : w.cell? ⟨b, 0, none⟩ = some (.pointer (some ⟨b, 0, none⟩))) :
  Calls Tryz.prog 152 #[.pointer (some ⟨b, 0, none⟩)] w fun e w' => e = .returned (.tuple #[]) ∧ w' = w := by
 go_enter Tryz.func152, Tryz.ntmps152
 go_wp2
 rw [Lib.run_neq_ptr_same w _ Tryz.underlying146 (show Tryz.prog.info? 148 = some Tryz.t148 from rfl)]
 go_wp2
 go_end0
 exact ⟨rfl, rfl⟩
theorem zFs (b : Nat) (w : World) (h0 : w.cell? ⟨b, 0, none⟩ = some (.pointer none)) (hsh : w.shape? b = some (148, 2)) (hfz : w.frozen? ⟨b, 0, none⟩ = false) :
  Calls Tryz.prog 152 #[.pointer (some ⟨b, 0, none⟩)] w fun e w' => e = .returned (.tuple #[]) ∧ w' = w.setCell ⟨b, 0, none⟩ (.pointer (some ⟨b, 0, none⟩)) := by
 have hj : Tryz.prog.info? 148 = some Tryz.t148 := rfl
 go_enter Tryz.func152, Tryz.ntmps152
 go_wp2
 rw [Lib.run_to_unsafe w ⟨b, 0, none⟩ Tryz.underlying146 Tryz.underlying233 hj (by decide) hsh (Nat.zero_lt_succ 1)]
 simp only [Result.andThen]
 rw [Oper.upon_value]
 go_wp2
 rw [run_callFunc_extern Tryz.func219 (by kernel_rfl) (by kernel_rfl) (by kernel_rfl) (e := Extern.AbiNoEscape.same) (by kernel_rfl)]
 rw [Lib.run_noEscape]
 simp only [Result.andThen]
 rw [Oper.upon_value]
 go_wp2
 rw [Lib.run_from_unsafe w ⟨b, 0, none⟩ Tryz.underlying233 Tryz.underlying146 hj hsh (by kernel_rfl)]
 simp only [Result.andThen]
 rw [Oper.upon_value]
 go_wp2
 go_end0
 exact ⟨rfl, rfl⟩
theorem setSelf {g : Gh} {bs : List (List AV)} {w : World} (h : Sto g bs w) {i k ty : Nat} {rest : List AV} (hb0 : bs[i]? = some (.baddr ty i :: rest)) (hk0 : g.σ[i]? = some k) :
  Sto g bs (w.setCell ⟨k, 0, none⟩ (.pointer (some ⟨k, 0, none⟩))) := by
 have hkm : k ∈ g.σ := List.mem_of_getElem? hk0
 have hblock : ∀ j, j ≠ k → (w.setCell ⟨k, 0, none⟩ (.pointer (some ⟨k, 0, none⟩))).heap[j]? = w.heap[j]? := fun j hj => RowKit.Below.heap_setCell _ _ _ _ hj
 refine { h with
  imm := fun y u hy => ?_
  blk := fun i' blk k' hb hk' => ?_
  ownσ := fun p k' hk' => by simpa using h.ownσ p k' hk' }
 ·rw [World.cell?_setCell_other _ _ _ _ (fun e => h.immσ y u hy (by rw [← e]; exact hkm))]; exact h.imm y u hy
 ·obtain ⟨c, ty', h1, h2, h3⟩ := h.blk i' blk k' hb hk'
  by_cases hi : i' = i
  ·subst hi
   rw [hb0] at hb; cases hb
   rw [hk0] at hk'; cases hk'
   refine ⟨c.setIfInBounds 0 (.pointer (some ⟨k, 0, none⟩)), ty', ?_, by simpa using h2, fun j y hy => ?_⟩
   ·simp only [World.setCell, Array.getElem?_modify, if_true]
    rw [h1]; rfl
   ·obtain ⟨h5, h6, h7⟩ := h3 j y hy
    rw [zCB]
    cases j with
    | zero =>
     simp only [List.length_cons] at h2
     rw [if_pos ⟨rfl, by omega⟩]
     simp at hy; subst hy
     exact ⟨h5.imp (fun e => by simpa using e), .baddr _ _ _ hk0, OwnsBy.of_not rfl⟩
    | succ j =>
     rw [if_neg (fun e => by have := e.1; omega)]
     exact ⟨h5.imp (fun e => by simpa using e), h6, h7.world (fun _ _ _ _ hs => hs.setCell) zBG (fun _ _ h => h) zB9⟩
  ·refine ⟨c, ty', ?_, h2, fun j x hx => ?_⟩
   ·rw [hblock k' (fun e => ?_)]
    ·exact h1
    ·subst e
     obtain ⟨l1, e1⟩ := List.getElem?_eq_some_iff.1 hk'; obtain ⟨l2, e2⟩ := List.getElem?_eq_some_iff.1 hk0
     exact hi (zEz h.nodup l1 l2 (by rw [e1, e2]))
   ·obtain ⟨h5, h6, h7⟩ := h3 j x hx
    exact ⟨h5, h6, h7.world (fun _ _ _ _ hs => hs.setCell) zBG (fun _ _ h => h) zB9⟩
theorem copyCheck_raw (x : AV) : Raw Tryz.prog 152 [.mptr 0 0] [[.baddr 148 0, x]] (.tup []) [[.baddr 148 0, x]] := by
 have hb : ([[.baddr 148 0, x]] : List (List AV))[0]? = some [.baddr 148 0, x] := rfl
 generalize ([[.baddr 148 0, x]] : List (List AV)) = bs at hb
 refine ⟨⟨_, Tryz.func152, rfl, rfl⟩, fun g w vals hs h0 htg ha => ?_⟩
 obtain ⟨hsz, hv⟩ := ha
 have hv0 := hv 0 _ rfl
 obtain ⟨v0, rfl⟩ := Array.size_eq_one_iff.1 hsz
 cases hv0' : (#[v0] : Array Value).getD 0 undef with
 | pointer p =>
  rw [hv0'] at hv0
  cases hv0 with
  | mptr _ _ k hk =>
   have : v0 = .pointer (some ⟨k, 0, none⟩) := hv0'
   subst this
   obtain ⟨c, ty, h1, h2, h3⟩ := hs.blk 0 _ k hb hk
   obtain ⟨h5, h6, h7⟩ := h3 0 _ rfl
   have hty : ty = 148 ∧ 2 = c.size := by
    rcases h5 with h5 | ⟨he, b, h5⟩
    ·cases h5
    ·cases h5; exact ⟨rfl, he⟩
   obtain ⟨hty, hsz2⟩ := hty
   subst hty
   have hc0 := zBI h1 0 (Nat.lt_of_lt_of_le (Nat.zero_lt_succ _) h2)
   have hkm : k ∈ g.σ := List.mem_of_getElem? hk
   generalize c.getD 0 undef = u at h6 hc0
   cases h6 with
   | baddr0 _ _ _ =>
    refine (zFs k w hc0 (by unfold World.shape?; rw [h1]; show some (148, c.size) = _; rw [← hsz2]) (zD0 h1 0)).mono ?_
    rintro e w' ⟨rfl, rfl⟩
    refine ⟨g, _, rfl, .tup [] #[] rfl (by simp), setSelf hs hb hk, ?_, h0⟩
    have h8 := Ext.refl' w g (fun k hk => hs.σ_lt hk) h0 htg
    exact { h8 with
     keep := fun j hj hT => by
      rw [RowKit.Below.heap_setCell _ _ _ _ (fun e => ?_)]
      subst e
      exact hT (.inl hkm)
     size := by simp
     os := h8.os
     tape := h8.tape
     output := h8.output }
   | baddr _ _ k' hk' =>
    rw [hk] at hk'; cases hk'
    refine (zGk k w hc0).mono ?_
    rintro e w' ⟨rfl, rfl⟩
    exact ⟨g, _, rfl, .tup [] #[] rfl (by simp), hs, Ext.refl' w' g (fun k hk => hs.σ_lt hk) h0 htg, h0⟩
 | _ => rw [hv0'] at hv0; cases hv0
section
variable (b : Nat) (w : World)
theorem us_none (p : Option Addr) (w : World) : (Builtin.unsafeString_ #[200, 3] 9 #[.pointer p, .int .i64 0]).run Tryz.prog w = .ok (.string ⟨#[]⟩) w := Lib.run_unsafeString_none w _ _ _ p
theorem string_nil (h0 : w.cell? ⟨b, 1, none⟩ = some (.slice none 0 0)) :
  Calls Tryz.prog 99 #[.pointer (some ⟨b, 0, none⟩)] w fun e w' => e = .returned (.string ⟨#[]⟩) ∧ w' = w.drew := by
 have c1 : w.drew.cell? ⟨b, 1, none⟩ = some (.slice none 0 0) := h0
 have hUS := us_none
 have hSD : (Builtin.unsafeSliceData_ #[91] 200 #[.slice none 0 0]).run Tryz.prog w.drew = .ok (.pointer none) w.drew := rfl
 go_enter Tryz.func99, Tryz.ntmps99
 go_wp2
 go_region
 all_goals (go_wp2; go_ret; exact ⟨rfl, rfl⟩)
theorem string_room (a : Addr) (k : Nat) (h0 : w.cell? ⟨b, 1, none⟩ = some (.slice (some a) 0 (k + 1))) :
  Calls Tryz.prog 99 #[.pointer (some ⟨b, 0, none⟩)] w fun e w' => e = .returned (.string ⟨#[]⟩) ∧ w' = w.drew := by
 have c1 : w.drew.cell? ⟨b, 1, none⟩ = some (.slice (some a) 0 (k + 1)) := h0
 have hUS := us_none
 have hSD : (Builtin.unsafeSliceData_ #[91] 200 #[.slice (some a) 0 (k + 1)]).run Tryz.prog w.drew = .ok (.pointer (some a)) w.drew := rfl
 go_enter Tryz.func99, Tryz.ntmps99
 go_wp2
 go_region
 all_goals (go_wp2; go_ret; exact ⟨rfl, rfl⟩)
theorem string_noroom (a : Addr) (sh : TypeId × Nat) (hsh : w.shape? a.block = some sh) (h0 : w.cell? ⟨b, 1, none⟩ = some (.slice (some a) 0 0)) (hlt : b < w.heap.size) :
  Calls Tryz.prog 99 #[.pointer (some ⟨b, 0, none⟩)] w fun e w' => e = .returned (.string ⟨#[]⟩) ∧ w' = (w.alloc (.view a 5)).drew := by
 have c1 : w.drew.cell? ⟨b, 1, none⟩ = some (.slice (some a) 0 0) := h0
 have hUS := us_none
 have hSD : (Builtin.unsafeSliceData_ #[91] 200 #[.slice (some a) 0 0]).run Tryz.prog w.drew = .ok (.pointer (some ⟨w.drew.heap.size, 0, none⟩)) (w.drew.alloc (.view a 5)) :=
  Lib.run_unsafeSliceData_zero w.drew _ _ 5 Tryz.underlying200 a 0 sh hsh
 have c3 : (w.alloc (.view a 5)).drew.cell? ⟨b, 1, none⟩ = some (.slice (some a) 0 0) := by
  show (w.alloc (.view a 5)).cell? ⟨b, 1, none⟩ = _
  rw [World.cell?_alloc_lt _ _ _ hlt]; exact h0
 have c2 : (w.drew.alloc (.view a 5)).cell? ⟨b, 1, none⟩ = some (.slice (some a) 0 0) := c3
 go_enter Tryz.func99, Tryz.ntmps99
 go_wp2
 go_region
 all_goals (go_wp2; go_ret; exact ⟨rfl, rfl⟩)
theorem string_some (q cells : Nat) (l : List UInt8) (cap : Nat) (h1 : l ≠ []) (hlc : l.length ≤ cap) (hn : l.length ≤ cells) (h63 : l.length ≤ 9223372036854775807) (hsh : w.shape? q = some (5, cells))
  (h0 : w.cell? ⟨b, 1, none⟩ = some (.slice (some ⟨q, 0, none⟩) l.length cap)) (hcell : ∀ j x, l[j]? = some x → w.cell? ((⟨q, 0, none⟩ : Addr).add j) = some (.int .u8 x.toNat)) :
  Calls Tryz.prog 99 #[.pointer (some ⟨b, 0, none⟩)] w fun e w' => e = .returned (.string ⟨l.toArray⟩) ∧ w' = w.drew.freeze ⟨q, 0, none⟩ l.length := by
 have c1 : w.drew.cell? ⟨b, 1, none⟩ = some (.slice (some ⟨q, 0, none⟩) l.length cap) := h0
 have hpos : l.length ≠ 0 := by simpa using h1
 have hSD : (Builtin.unsafeSliceData_ #[91] 200 #[.slice (some ⟨q, 0, none⟩) l.length cap]).run Tryz.prog w.drew = .ok (.pointer (some ⟨q, 0, none⟩)) w.drew :=
  Lib.run_unsafeSliceData_row w.drew _ _ _ _ _ (by omega)
 have hUS : (Builtin.unsafeString_ #[200, 3] 9 #[.pointer (some ⟨q, 0, none⟩), .int .i64 l.length]).run Tryz.prog w.drew = .ok (.string ⟨l.toArray⟩) (w.drew.freeze ⟨q, 0, none⟩ l.length) :=
  Lib.run_unsafeString_row w.drew 200 3 9 5 Tryz.underlying200 (by kernel_rfl) q cells hsh l h1 hn h63 hcell
 clear h1 hpos hlc hn h63 hcell
 generalize hw : w.drew.freeze ⟨q, 0, none⟩ l.length = wf at hUS ⊢
 go_enter Tryz.func99, Tryz.ntmps99
 go_wp2
 go_region
 all_goals (go_wp2; go_ret; exact ⟨rfl, rfl⟩)
end
theorem Sto.move {g : Gh} {bs : List (List AV)} {w w' : World} (h : Sto g bs w) (hc : ∀ a v, w.cell? a = some v → w'.cell? a = some v) (hb : ∀ k, k ∈ g.σ → w'.heap[k]? = w.heap[k]?) (hsz : w.heap.size ≤ w'.heap.size)
  (hown : ∀ (i j k : Nat) c ty blk x, bs[i]? = some blk → g.σ[i]? = some k → w.heap[k]? = some (.cells c ty (0, 0)) → blk[j]? = some x → OwnsBy g.imm w (g.own (.cell i j)) x (c.getD j undef) → OwnsBy g.imm w' (g.own (.cell i j)) x (c.getD j undef)) :
  Sto g bs w' := { h with
 imm := fun x v hx => hc _ _ (h.imm x v hx)
 blk := fun i blk k h1 h2 => by
  obtain ⟨c, ty, q1, q2, q3⟩ := h.blk i blk k h1 h2
  refine ⟨c, ty, by rw [hb k (List.mem_of_getElem? h2)]; exact q1, q2, fun j x hx => ?_⟩
  obtain ⟨r1, r2, r3⟩ := q3 j x hx
  exact ⟨r1, r2, hown i j k c ty blk x h1 h2 q1 hx r3⟩
 ownσ := fun p k hp => ⟨(h.ownσ p k hp).1, Nat.lt_of_lt_of_le (h.ownσ p k hp).2 hsz⟩ }
theorem zGJ {g : Gh} {bs : List (List AV)} {w : World} (h : Sto g bs w) : Sto g bs w.drew :=
 Sto.move h (fun _ _ h => h) (fun _ _ => rfl) (Nat.le_refl _) fun _ _ _ _ _ _ _ _ _ _ _ h => h
theorem zFz {w : World} {k : Nat} {sh : TypeId × Nat} (h : zEX w k = some sh) : w.shape? k = some sh := by
 unfold zEX at h; unfold World.shape?
 split at h
 ·rename_i c ty fr e; rw [e]
  split at h
  ·exact h
  ·cases h
 ·cases h
theorem heap_freeze (w : World) (q n k : Nat) (h : k ≠ q) : (w.freeze ⟨q, 0, none⟩ n).heap[k]? = w.heap[k]? := by
 unfold World.freeze
 split
 ·rfl
 ·simp only [Array.getElem?_modify]; rw [if_neg (fun e => h e.symm)]
theorem freeze_at {w : World} {q n : Nat} {c : Array Value} {ty : TypeId} {fr : Nat × Nat} (h : w.heap[q]? = some (.cells c ty fr)) (hn : n ≠ 0) :
  (w.freeze ⟨q, 0, none⟩ n).heap[q]? = some (.cells c ty (if fr.1 == fr.2 then (0, n) else (0, max fr.2 n))) := by
 unfold World.freeze
 rw [if_neg hn]
 simp only [Array.getElem?_modify, if_true, h, Option.map_some]
 obtain ⟨lo, hi⟩ := fr
 simp
theorem zCv (b : List UInt8) (r : List UInt8) (h : zDH b = some r) :
  Raw Tryz.prog 99 [.mptr 0 0] [[.baddr 148 0, .osl ⟨1, 5⟩ (b.map cU)]] (.str r) [[.baddr 148 0, .osl ⟨1, 5⟩ (b.map cU)]] := by
 obtain rfl := Option.some.inj h
 refine ⟨⟨_, Tryz.func99, rfl, rfl⟩, fun g w vals hs h0 htg ha => ?_⟩
 obtain ⟨hsz, hv⟩ := ha
 have hv0 := hv 0 _ rfl
 obtain ⟨v0, rfl⟩ := Array.size_eq_one_iff.1 hsz
 cases hv0' : (#[v0] : Array Value).getD 0 undef with
 | pointer p =>
  rw [hv0'] at hv0
  cases hv0 with
  | mptr _ _ k hk =>
   have : v0 = .pointer (some ⟨k, 0, none⟩) := hv0'
   subst this
   obtain ⟨c, ty, h1, h2, h3⟩ := hs.blk 0 _ k rfl hk
   obtain ⟨h5, h6, h7⟩ := h3 1 _ rfl
   have hc1 := zBI h1 1 (Nat.lt_of_lt_of_le (Nat.lt_succ_self _) h2)
   have hkl := hs.σ_lt (List.mem_of_getElem? hk)
   have hrefl := Ext.refl' w g (fun k hk => hs.σ_lt hk) h0 htg
   have hext : ∀ w' : World, (∀ k, k < w.heap.size → ¬ Fx.T ⟨w, g⟩ k → w'.heap[k]? = w.heap[k]?) → w.heap.size ≤ w'.heap.size → w'.os = w.os → w'.tape = w.tape → w'.output = w.output → Ext ⟨w, g⟩ g w' := fun w' p1 p2 p3 p4 p5 =>
    { hrefl with keep := p1, size := p2, os := p3, tape := p4, output := p5 }
   have hstr : b.length ≤ 281474976710656 → Rep g.imm g.σ (.str b) (.string ⟨b.toArray⟩) := fun hl => .str _ _ (by simp) (by omega)
   generalize hcv : c.getD 1 undef = u at h6 h7 hc1
   cases h6' : b with
   | nil =>
    subst h6'
    have hrs : Rep g.imm g.σ (.str []) (.string ⟨#[]⟩) := hstr (by simp)
    cases h6 with
    | osl0 _ =>
     refine (string_nil k w hc1).mono ?_
     rintro e w' ⟨rfl, rfl⟩
     exact ⟨g, _, rfl, hrs, zGJ hs, hext _ (fun _ _ _ => rfl) (Nat.le_refl _) rfl rfl rfl, h0⟩
    | osl _ _ a n cap vs hn hcap hbd he hi hr =>
     have hn0 : n = 0 := by simpa using hn
     subst hn0
     cases cap with
     | succ cap =>
      refine (string_room k w a cap hc1).mono ?_
      rintro e w' ⟨rfl, rfl⟩
      exact ⟨g, _, rfl, hrs, zGJ hs, hext _ (fun _ _ _ => rfl) (Nat.le_refl _) rfl rfl rfl, h0⟩
     | zero =>
      rcases h7 _ _ _ rfl with h8 | ⟨a', h8, h9, ⟨ha1, ha2, m, h10, h11⟩, h12⟩
      ·cases h8
      ·cases h8
       refine (string_noroom k w a _ (zFz h10) hc1 hkl).mono ?_
       rintro e w' ⟨rfl, rfl⟩
       refine ⟨g, _, rfl, hrs, zGJ (Sto.move hs (fun x v hx => ?_) (fun k' hk' => heap_alloc_old w _ (hs.σ_lt hk')) (by simp) fun i j k' c' ty' blk x e1 e2 e3 e4 e5 => ?_), hext _ (fun k' hk' _ => heap_alloc_old w _ hk') (by simp) rfl rfl rfl, h0⟩
       ·rw [World.cell?_alloc_lt _ _ _ (World.block_lt_of_cell? _ _ hx)]; exact hx
       ·exact e5.world (fun _ _ _ _ hs => hs.alloc (fun _ _ => rfl)) zB5 (fun _ _ h => h) zDC
   | cons x0 b0 =>
    have hne : b ≠ [] := by rw [h6']; simp
    rw [← h6']
    clear h6'
    generalize hl0 : b.map cU = l0 at h6
    cases h6 with
    | osl0 _ => exact absurd (List.map_eq_nil_iff.1 hl0) hne
    | osl _ _ a n cap vs hn hcap hbd he hi hr =>
     subst hl0
     have hn' : n = b.length := by simpa using hn
     subst hn'
     rcases h7 _ _ _ rfl with h8 | ⟨a', h8, h9, ⟨ha1, ha2, m, h10, h11⟩, h12⟩
     ·cases h8
     ·cases h8
      obtain ⟨q, off, spot⟩ := a
      simp only at ha1 ha2 h9 h10
      subst ha1; subst ha2
      have hpos : b.length ≠ 0 := by simpa using hne
      have hcell : ∀ j x, b[j]? = some x → w.cell? ((⟨q, 0, none⟩ : Addr).add j) = some (.int .u8 x.toNat) := fun j x hx => by
       have e1 : (b.map cU)[j]? = some [.int .u8 x.toNat] := by rw [List.getElem?_map, hx]; rfl
       have e2 := hi j _ e1 0 _ rfl
       have e3 := hr j _ e1 0 _ rfl
       have e4 := hs.imm _ _ e2
       simp only [Nat.mul_one, Nat.add_zero] at e4
       rw [e4]
       generalize vs j 0 = y at e3
       cases e3; rfl
      have hblk : ∃ c' fr, w.heap[q]? = some (.cells c' 5 fr) ∧ (fr.1 = fr.2 ∨ fr.1 = 0) ∧ c'.size = m := by
       unfold zEX at h10
       split at h10
       ·rename_i c' ty' fr e
        split at h10
        ·rename_i hfr; cases h10; exact ⟨c', fr, e, hfr, rfl⟩
        ·cases h10
       ·cases h10
      obtain ⟨c', fr, hq, hfr, hm⟩ := hblk
      have hcm : cap ≤ m := by simpa using h11
      refine (string_some k w q m b cap hne hcap (by omega) (by omega) (zFz h10) hc1 hcell).mono ?_
      rintro e w' ⟨rfl, rfl⟩
      have hqσ := (hs.ownσ _ q h9).1
      have hfz : ∀ k', k' ≠ q → (w.freeze ⟨q, 0, none⟩ b.length).heap[k']? = w.heap[k']? := fun k' hk' => heap_freeze w q _ k' hk'
      have hfq := freeze_at (n := b.length) hq hpos
      have hsize : (w.freeze ⟨q, 0, none⟩ b.length).heap.size = w.heap.size := by unfold World.freeze; split <;> simp
      have hcells : ∀ x, (w.freeze ⟨q, 0, none⟩ b.length).cell? x = w.cell? x := fun x => by
       unfold World.cell?
       by_cases hx : x.block = q
       ·rw [hx, hfq, hq]
       ·rw [hfz _ hx]
      have hdrw : w.drew.freeze ⟨q, 0, none⟩ b.length = (w.freeze ⟨q, 0, none⟩ b.length).drew := by
       unfold World.freeze; split <;> rfl
      rw [hdrw]
      refine ⟨g, _, rfl, hstr hbd, zGJ (Sto.move hs (fun x v hx => by rw [hcells]; exact hx) (fun k' hk' => hfz k' (fun e => hqσ (by rw [← e]; exact hk'))) (by rw [hsize]; exact Nat.le_refl _) fun i j k' c2 ty' blk x e1 e2 e3 e4 e5 => ?_),
       hext _ (fun k' hk' hT => hfz k' (fun e => hT (.inr ⟨0, 1, by rw [e]; exact h9⟩))) (by show _ ≤ (w.freeze ⟨q, 0, none⟩ b.length).heap.size; rw [hsize]; exact Nat.le_refl _) (by show (w.freeze ⟨q, 0, none⟩ b.length).os = _; unfold World.freeze; split <;> rfl)
       (by show (w.freeze ⟨q, 0, none⟩ b.length).tape = _; unfold World.freeze; split <;> rfl) (by show (w.freeze ⟨q, 0, none⟩ b.length).output = _; unfold World.freeze; split <;> rfl), h0⟩
      cases i with
      | succ i => simp at e1
      | zero =>
       simp only [List.getElem?_cons_zero, Option.some.injEq] at e1
       subst e1
       rw [hk] at e2; cases e2
       rw [h1] at e3; cases e3
       cases j with
       | zero => simp only [List.getElem?_cons_zero, Option.some.injEq] at e4; subst e4; exact OwnsBy.of_not rfl
       | succ j =>
        cases j with
        | succ j => simp at e4
        | zero =>
         simp only [List.getElem?_cons_succ, List.getElem?_cons_zero, Option.some.injEq] at e4
         subst e4
         rw [hcv]
         intro base n cap' hv'
         cases hv'
         refine .inr ⟨_, rfl, h9, ⟨rfl, rfl, m, ?_, h11⟩, fun j hj1 hj2 => ?_⟩
         ·unfold zEX
          rw [hfq, ← hm]
          simp only
          split <;> simp
         ·obtain ⟨p1, p2, p3⟩ := h12 j hj1 hj2
          refine ⟨p1, by rw [hcells]; exact p2, ?_⟩
          have hb0 : ((⟨q, 0, none⟩ : Addr).add j).block = q := zCp _ _
          have ho0 : ((⟨q, 0, none⟩ : Addr).add j).off = j := by rw [add_off]; exact Nat.zero_add j
          unfold World.frozen? at p3 ⊢
          rw [hb0, hq] at p3
          rw [hb0, hfq]
          rw [ho0] at p3 ⊢
          simp only [Nat.mul_one] at hj1
          obtain ⟨lo, hi'⟩ := fr
          simp only [Bool.and_eq_false_iff, decide_eq_false_iff_not] at p3 hfr
          by_cases hlo : lo = hi'
          ·rw [if_pos (by simp [hlo])]
           simp; omega
          ·rw [if_neg (by simp [hlo])]
           simp; omega
 | _ => rw [hv0'] at hv0; cases hv0
end Go.Proofs.YtipodehgjknelaaGreatDoor
namespace Go.Proofs.YtipodehgjknelaaGreatDoor
open Go Go.Abs Go.RowKit
theorem ixb_any (s : ByteArray) (c : Int) (w : World) : Calls Tryz.prog 210 #[.string s, .int .u8 c] w fun e w' => e = .returned (.int .i64 (Lib.indexByte s.data.toList c.toNat.toUInt8)) ∧ w' = w := by
 go_enter Tryz.func210, Tryz.ntmps210
 go_wp2
 rw [run_callFunc_extern Tryz.func291 (by kernel_rfl) (by kernel_rfl) (by kernel_rfl) (e := Extern.BytealgIndexByte.indexByte) (by kernel_rfl)]
 rw [Lib.run_indexByteString]
 simp only [Result.andThen]
 rw [Oper.upon_value]
 go_wp2
 go_ret
 exact ⟨rfl, rfl⟩
theorem zFV (c : UInt8) : ∀ l : List UInt8, Lib.indexByte l c ≤ l.length
 | [] => by simp [Lib.indexByte]
 | b :: l => by
  have := zFV c l
  have e : ((b :: l).length : Int) = l.length + 1 := by simp
  rw [e]
  unfold Lib.indexByte
  split
  ·omega
  ·split
   ·omega
   ·omega
theorem zC2 (s0 : List UInt8) (c : UInt8) (r : Int) (h : zB4 s0 c = some r) : Pure Tryz.prog 210 [.str s0, .int .u8 c.toNat] (.int .i64 r) := by
 refine zDX ⟨Tryz.f210, Tryz.func210, by rfl, by rfl⟩ fun imm w vals ha => ?_
 obtain ⟨a, b, rfl, h1, h2⟩ := vals2 ha
 cases h1 with
 | str s l hs hb =>
  cases h2 with
  | int k n hn =>
   refine (ixb_any s _ w).mono fun e w' he => ?_
   obtain ⟨rfl, rfl⟩ := he
   refine ⟨_, rfl, ?_, rfl⟩
   rw [hs]
   have e2 : ((c.toNat : Int).toNat).toUInt8 = c := by simp
   rw [e2]
   cases h
   refine .int .i64 _ ?_
   have := Lib.indexByte_ge s0 c
   have := zFV c s0
   simp only [inR]
   omega
theorem count_any (s : ByteArray) (t : ByteArray) (c : UInt8) (ht : t.data = #[c]) (w : World) : Calls Tryz.prog 134 #[.string s, .string t] w fun e w' => e = .returned (.int .i64 (Lib.countByte s.data.toList c)) ∧ w' = w := by
 have hsz : t.size = 1 := by show t.data.size = 1; rw [ht]; rfl
 obtain ⟨d⟩ := t
 simp only at ht
 subst ht
 go_enter Tryz.func134, Tryz.ntmps134
 go_wp2
 rw [run_callFunc_extern Tryz.func212 (by kernel_rfl) (by kernel_rfl) (by kernel_rfl) (e := Extern.BytealgCount.count) (by kernel_rfl)]
 rw [Lib.run_countString]
 simp only [Result.andThen]
 rw [Oper.upon_value]
 go_wp2
 go_ret
 refine ⟨?_, rfl⟩
 simp
 rfl
theorem zE8 (s0 t0 : List UInt8) (r : Int) (h : zCt s0 t0 = some r) : Pure Tryz.prog 134 [.str s0, .str t0] (.int .i64 r) := by
 refine zDX ⟨Tryz.f134, Tryz.func134, by rfl, by rfl⟩ fun imm w vals ha => ?_
 obtain ⟨a, b, rfl, h1, h2⟩ := vals2 ha
 unfold zCt at h
 split at h
 ·rename_i c
  cases h
  cases h1 with
  | str s l hs hb =>
   cases h2 with
   | str t l2 ht _ =>
    refine (count_any s t c (by rw [← Array.toArray_toList (xs := t.data), ht]) w).mono fun e w' he => ?_
    obtain ⟨rfl, rfl⟩ := he
    refine ⟨_, rfl, ?_, rfl⟩
    rw [hs]
    refine .int .i64 _ ?_
    have : Lib.countByte s0 c ≤ s0.length := List.count_le_length
    simp only [inR]
    omega
 ·cases h
theorem zGI (s0 t0 : List UInt8) (r : List UInt8 × List UInt8 × Bool) (h : zDj s0 t0 = some r) : Pure Tryz.prog 165 [.str s0, .str t0] (.tup [.str r.1, .str r.2.1, .bool r.2.2]) := by
 refine zDY ⟨Tryz.f165, Tryz.func165, by rfl, by rfl⟩ fun imm w vals him hgl htb ha => ?_
 obtain ⟨a, b, rfl, h1, h2⟩ := vals2 ha
 unfold zDj at h
 split at h
 case isFalse => cases h
 rename_i hlen
 cases h
 cases h1 with
 | str s l hs hb =>
  cases h2 with
  | str t l2 ht hb2 =>
   obtain ⟨m, hm⟩ := hgl 0 (by simp [gl])
   have z1 : s.size = s0.length := by rw [← hs]; exact Array.length_toList.symm
   refine (Tryz.strings_Cut s t m w (by omega) (him _ _ hm)).mono fun e w' he => ?_
   obtain ⟨rfl, n, rfl⟩ := he
   have hc : (Lib.cut s0 t0).1.length ≤ s0.length ∧ (Lib.cut s0 t0).2.1.length ≤ s0.length := by
    unfold Lib.cut
    split
    ·refine ⟨?_, ?_⟩
     ·show (s0.take _).length ≤ _; rw [List.length_take]; omega
     ·show (s0.drop _).length ≤ _; rw [List.length_drop]; omega
    ·exact ⟨Nat.le_refl _, Nat.zero_le _⟩
   rw [hs, ht]
   refine ⟨_, rfl, .tup _ _ (by rfl) fun i x hx => ?_, ⟨rfl, rfl, rfl, Nat.le_refl _, fun _ _ => rfl⟩⟩
   match i, hx with
   | 0, hx => cases hx; exact .str _ _ rfl (by omega)
   | 1, hx => cases hx; exact .str _ _ rfl (by omega)
   | 2, hx => cases hx; exact .bool _
   | (n + 3), hx => simp at hx
end Go.Proofs.YtipodehgjknelaaGreatDoor
namespace Go.Proofs.YtipodehgjknelaaGreatDoor
open Go Go.Abs
def libHas (f : FuncId) : Bool :=
 f == 152 || (f == 99 || (f == 131 || (f == 324 || (f == 165 || (f == 210 || (f == 134 || (f == 92 || f == 45)))))))
def libTab : Calling := fun f args bs =>
 if f = 152 then match args, bs with
  | [.mptr 0 0], [[.baddr t 0, x]] => if t = 148 then some (.raw (.tup []) [[.baddr t 0, x]] []) else none
  | _, _ => none
 else if f = 99 then match args, bs with
  | [.mptr 0 0], [[.baddr t 0, .osl ⟨1, u⟩ l]] => if t = 148 ∧ u = 5 then (match ubytes l with
   | some b => some (.raw (.str b) [[.baddr t 0, .osl ⟨1, u⟩ l]] [])
   | none => none) else none
  | _, _ => none
 else if f = 131 then match args with
  | [.int .i64 n] => (zA8 n).map fun r => .pure (.str r)
  | _ => none
 else if f = 324 then match args with
  | [.str s] => (zBE s).map fun r => .pure (.sl (r.map cS))
  | _ => none
 else if f = 165 then match args with
  | [.str s, .str t] => (zDj s t).map fun r => .pure (.tup [.str r.1, .str r.2.1, .bool r.2.2])
  | _ => none
 else if f = 210 then match args with
  | [.str s, .int .u8 n] => if 0 ≤ n ∧ n ≤ 255 then (zB4 s (UInt8.ofNat n.toNat)).map fun r => .pure (.int .i64 r) else none
  | _ => none
 else if f = 134 then match args with
  | [.str s, .str t] => (zCt s t).map fun r => .pure (.int .i64 r)
  | _ => none
 else if f = 92 then match args with
  | [.sl l, .str s] => (match strsOf l with
   | some l' => (zBx l' s).map fun r => .pure (.str r)
   | none => none)
  | _ => none
 else if f = 45 then match args with
  | [.str s, .str t] => (zCC s t).map fun r => .pure (.bool r)
  | _ => none
 else none
theorem mapR {α : Type} {o : Option α} {g : α → AV} {x : CR} (h : (o.map fun r => CR.pure (g r)) = some x) : ∃ r, o = some r ∧ x = .pure (g r) := by
 cases o with
 | none => cases h
 | some r => exact ⟨r, rfl, (Option.some.inj h).symm⟩
theorem libTab_ok : TabOk Tryz.prog libTab := by
 have key : ∀ f args bs x, libTab f args bs = some x → (∃ r, x = .pure r ∧ Pure Tryz.prog f args r ∧ r.owns = false) ∨ ∃ r bs' ρ, x = .raw r bs' ρ ∧ Raw Tryz.prog f args bs r bs' ∧ r.owns = false := by
  intro f args bs x h
  unfold libTab at h
  split at h
  ·rename_i hf; subst hf
   split at h
   ·split at h
    ·rename_i ht; subst ht
     cases h
     exact .inr ⟨_, _, _, rfl, copyCheck_raw _, rfl⟩
    ·cases h
   ·cases h
  split at h
  ·rename_i hf; subst hf
   split at h
   ·split at h
    ·rename_i ht; obtain ⟨rfl, rfl⟩ := ht
     split at h
     ·rename_i b hb
      cases h
      obtain rfl := ubytes_ok hb
      exact .inr ⟨_, _, _, rfl, zCv b b rfl, rfl⟩
     ·cases h
    ·cases h
   ·cases h
  split at h
  ·rename_i hf; subst hf
   split at h
   ·obtain ⟨r, h1, rfl⟩ := mapR h
    exact .inl ⟨_, rfl, zCr _ _ h1, rfl⟩
   ·cases h
  split at h
  ·rename_i hf; subst hf
   split at h
   ·obtain ⟨r, h1, rfl⟩ := mapR h
    exact .inl ⟨_, rfl, zDI _ _ h1, rfl⟩
   ·cases h
  split at h
  ·rename_i hf; subst hf
   split at h
   ·obtain ⟨r, h1, rfl⟩ := mapR h
    exact .inl ⟨_, rfl, zGI _ _ _ h1, rfl⟩
   ·cases h
  split at h
  ·rename_i hf; subst hf
   split at h
   ·split at h
    ·rename_i hn
     obtain ⟨r, h1, rfl⟩ := mapR h
     have := zC2 _ _ _ h1
     rw [u8_back hn] at this
     exact .inl ⟨_, rfl, this, rfl⟩
    ·cases h
   ·cases h
  split at h
  ·rename_i hf; subst hf
   split at h
   ·obtain ⟨r, h1, rfl⟩ := mapR h
    exact .inl ⟨_, rfl, zE8 _ _ _ h1, rfl⟩
   ·cases h
  split at h
  ·rename_i hf; subst hf
   split at h
   ·split at h
    ·rename_i l' hl
     obtain ⟨r, h1, rfl⟩ := mapR h
     obtain rfl := strsOf_ok hl
     exact .inl ⟨_, rfl, zDx _ _ _ h1, rfl⟩
    ·cases h
   ·cases h
  split at h
  ·rename_i hf; subst hf
   split at h
   ·obtain ⟨r, h1, rfl⟩ := mapR h
    exact .inl ⟨_, rfl, zEF _ _ _ h1, rfl⟩
   ·cases h
  cases h
 constructor
 ·intro f args bs res h
  rcases key f args bs _ h with ⟨r, e, h1⟩ | ⟨r, bs', ρ, e, h1⟩
  ·cases e; exact h1
  ·cases e
 ·intro f args bs res bs' ρ h
  rcases key f args bs _ h with ⟨r, e, h1⟩ | ⟨r, bs1, ρ1, e, h1⟩
  ·cases e
  ·cases e; exact h1
theorem lib_ok : zBN Tryz.prog (libC libHas libTab) := libC_ok libTab_ok
theorem zFr : yes (callN Tryz.prog (libC libHas libTab) 100000 100 19 [] []) = true := by decide +kernel
theorem zGg (r : Bool) (h : zDl = some r) : Pure Tryz.prog 19 [] (.bool r) := by
 cases h
 exact yes_ok (callN_ok lib_ok mixed 100000 100) zFr
theorem zGf (fuel : Nat) : (∀ (p1 : zGr) (depth2 : Int) (c3 : Int) (r : Int) (_ : zAn fuel p1 depth2 c3 = some r), Raw Tryz.prog 57 [.agg [.int .i64 p1.Op, .int .i64 p1.N, .str p1.S, .sl (p1.L.map zGr.c)], .int .i64 depth2, .mptr 0 0, .mptr 1 0] [[.int .i64 c3], [.fn (.func 57) [] [.mptr 0 0, .mptr 1 0]]] (.tup []) [[.int .i64 r], [.fn (.func 57) [] [.mptr 0 0, .mptr 1 0]]]) := by
 induction fuel with
 | zero => intro p1 depth2 c3 r h; rw [zAn] at h; cases h
 | succ fuel zEP =>
  intro p1 depth2 c3 r h
  rw [zAn] at h
  refine zCX Tryz.func57 (by rfl) (by rfl) (by simp) (by simp) <| cutA 43 2 [(1, .int .i64 depth2), (2, .mptr 0 0), (3, .mptr 1 0), (4, .mptr 2 0)] [[.int .i64 c3], [.fn (.func 57) [] [.mptr 0 0, .mptr 1 0]], (zGr.d p1)] ?_
  obtain ⟨n4, q5, h⟩ := bs h
  obtain ⟨q6, q7⟩ := zEr q5
  try simp at q6
  try simp at q7
  have c8 := q6; simp only [Rng, inR] at c8
  refine cut 43 2 [(1, .int .i64 depth2), (2, .mptr 0 0), (3, .mptr 1 0), (4, .mptr 2 0)] [[.int .i64 n4], [.fn (.func 57) [] [.mptr 0 0, .mptr 1 0]], (zGr.d p1)] (st (by simp [q6, q7])) <| zAH <| cut 43 2 [(1, .int .i64 depth2), (2, .mptr 0 0), (3, .mptr 1 0), (4, .mptr 2 0), (22, .bool ((ltI 50 depth2) || ((ltI 20 (p1.L.length : Int)) || (ltI 200 (p1.S.length : Int)))))] [[.int .i64 n4], [.fn (.func 57) [] [.mptr 0 0, .mptr 1 0]], (zGr.d p1)] ?_ ?_
  ·rcases tf (ltI 50 depth2) with g9 | g9
   ·have c10 := ltT g9
    refine st ?_
    simp [g9]
   have c11 := ltF g9
   rcases tf (ltI 20 (p1.L.length : Int)) with g12 | g12
   ·have c13 := ltT g12
    refine zDD 2 3 rfl rfl rfl fun f14 => ?_
    rw [List.length_map] at f14
    refine st ?_
    simp [g9, g12]
   have c15 := ltF g12
   refine zDD 2 3 rfl rfl rfl fun f16 => ?_
   rw [List.length_map] at f16
   refine st ?_
   simp [g9, g12]
  rcases sp h with ⟨g17, h⟩ | ⟨g17, h⟩
  ·refine condT rfl g17 <| lastA 43 2 [(1, .int .i64 depth2), (2, .mptr 0 0), (3, .mptr 1 0), (4, .mptr 2 0)] [[.int .i64 1000], [.fn (.func 57) [] [.mptr 0 0, .mptr 1 0]], (zGr.d p1)] <| cutA 43 2 [(1, .int .i64 depth2), (2, .mptr 0 0), (3, .mptr 1 0), (4, .mptr 2 0), (6, .int .i64 0)] [[.int .i64 1000], [.fn (.func 57) [] [.mptr 0 0, .mptr 1 0]], (zGr.d p1)] <| zAN ?_
   obtain ⟨o20, l21, h⟩ := bs h
   refine zBw (fun p : Nat × Int × Nat => mkS 43 2 [(1, .int .i64 depth2), (2, .mptr 0 0), (3, .mptr 1 0), (4, .mptr 2 0), (6, .int .i64 p.2.2)] [[.int .i64 p.2.1], [.fn (.func 57) [] [.mptr 0 0, .mptr 1 0]], (zGr.d p1)]) (fun p => zBF (zAn fuel) p1 depth2 p.1 p.2.1 p.2.2 = some o20) (fun p => p.1) (fuel, 1000, 0) l21 (zBS (by simp)) ?_
   rintro ⟨k22, a18, i19⟩ l21
   try dsimp only at l21 ⊢
   cases k22 with
   | zero =>
    rw [zBF] at l21; cases l21
   | succ k23 =>
    rw [zBF] at l21
    refine zAH <| cut 43 2 [(1, .int .i64 depth2), (2, .mptr 0 0), (3, .mptr 1 0), (4, .mptr 2 0), (6, .int .i64 i19), (31, .bool ((ltI ((i19 : Nat) : Int) (p1.L.length : Int)) && (leI a18 200)))] [[.int .i64 a18], [.fn (.func 57) [] [.mptr 0 0, .mptr 1 0]], (zGr.d p1)] ?_ ?_
    ·rcases tf (ltI ((i19 : Nat) : Int) (p1.L.length : Int)) with g24 | g24
     ·have c25 := ltT g24
      refine zDD 2 3 rfl rfl rfl fun f26 => ?_
      rw [List.length_map] at f26
      refine st ?_
      simp [g24]
     have c27 := ltF g24
     refine zDD 2 3 rfl rfl rfl fun f28 => ?_
     rw [List.length_map] at f28
     refine st ?_
     simp [g24]
    rcases sp l21 with ⟨g29, l21⟩ | ⟨g29, l21⟩
    ·obtain ⟨g30, g31⟩ := andT g29
     have c32 := ltT g30
     have c34 := leT g31
     refine condT rfl g29 <| zDD 2 3 rfl rfl rfl fun f33 => ?_
     rw [List.length_map] at f33
     refine zAK <| zAe <| zAH <| zAN ?_
     obtain ⟨x35, q36, l21⟩ := bs l21
     obtain ⟨n37, q38, l21⟩ := bs l21
     obtain ⟨q39, q40⟩ := zEr q38
     try simp at q39
     try simp at q40
     have c41 := q39; simp only [Rng, inR] at c41
     obtain ⟨v42, q43, l21⟩ := bs l21
     refine last 43 2 [(1, .int .i64 depth2), (2, .mptr 0 0), (3, .mptr 1 0), (4, .mptr 2 0), (6, .int .i64 i19)] [[.int .i64 v42], [.fn (.func 57) [] [.mptr 0 0, .mptr 1 0]], (zGr.d p1)] ?_ fun zz hs => ?_
     ·refine zDF [] [8] mixed (n := 43) rfl (by decide) (by decide) ?_
      simp [q36, q39, q40]
      have r45 := (zEP x35 n37 a18 v42 q43).frame [0, 1] [[.int .i64 a18], [.fn (.func 57) [] [.mptr 0 0, .mptr 1 0]], [.int .i64 p1.Op, .int .i64 p1.N, .str p1.S, .sl (p1.L.map zGr.c)]] (by simp)
      try simp [q36, q39, q40] at r45
      refine callX r45 (by simp [q36, q39, q40]) rfl ?_
      simp [q36, q39, q40]
     refine zEs <| zBi ?_ hs
     have q44 : Rng .i64 (((i19 : Nat) : Int) + 1) := by simp only [Rng, inR]; omega
     try simp at q44
     refine last 43 2 [(1, .int .i64 depth2), (2, .mptr 0 0), (3, .mptr 1 0), (4, .mptr 2 0), (6, .int .i64 ((i19 + 1 : Nat) : Int))] [[.int .i64 v42], [.fn (.func 57) [] [.mptr 0 0, .mptr 1 0]], (zGr.d p1)] (st (by simp [q44])) fun zz hs => ?_
     exact ⟨(k23, v42, i19 + 1), hs, l21, by simp⟩
    refine condF rfl g29 <| zBD <| zAV ?_
    have q46 := Option.some.inj l21
    have q46 := q46.symm
    refine zAV <| zBK ?_
    obtain rfl := oi h
    simp [q46]
  obtain ⟨g47, g48⟩ := orF g17
  have c49 := ltF g47
  obtain ⟨g50, g51⟩ := orF g48
  have c52 := ltF g50
  have c54 := ltF g51
  refine condF rfl g17 <| zDD 2 3 rfl rfl rfl fun f53 => ?_
  rw [List.length_map] at f53
  refine factCS 2 2 rfl rfl fun f55 => ?_
  refine zAK <| zAe <| cutA 43 2 [(1, .int .i64 depth2), (2, .mptr 0 0), (3, .mptr 1 0), (4, .mptr 2 0), (6, .int .i64 0)] [[.int .i64 n4], [.fn (.func 57) [] [.mptr 0 0, .mptr 1 0]], (zGr.d p1)] <| zAN ?_
  obtain ⟨o58, l59, h⟩ := bs h
  refine zBw (fun p : Nat × Int × Nat => mkS 43 2 [(1, .int .i64 depth2), (2, .mptr 0 0), (3, .mptr 1 0), (4, .mptr 2 0), (6, .int .i64 p.2.2)] [[.int .i64 p.2.1], [.fn (.func 57) [] [.mptr 0 0, .mptr 1 0]], (zGr.d p1)]) (fun p => zAv (zAn fuel) p1 depth2 p.1 p.2.1 p.2.2 = some o58) (fun p => p.1) (fuel, n4, 0) l59 (zBS (by simp)) ?_
  rintro ⟨k60, a56, i57⟩ l59
  try dsimp only at l59 ⊢
  cases k60 with
  | zero =>
   rw [zAv] at l59; cases l59
  | succ k61 =>
   rw [zAv] at l59
   refine zAH <| cut 43 2 [(1, .int .i64 depth2), (2, .mptr 0 0), (3, .mptr 1 0), (4, .mptr 2 0), (6, .int .i64 i57), (31, .bool ((ltI ((i57 : Nat) : Int) (p1.L.length : Int)) && (leI a56 200)))] [[.int .i64 a56], [.fn (.func 57) [] [.mptr 0 0, .mptr 1 0]], (zGr.d p1)] ?_ ?_
   ·rcases tf (ltI ((i57 : Nat) : Int) (p1.L.length : Int)) with g62 | g62
    ·have c63 := ltT g62
     refine st ?_
     simp [g62]
    have c64 := ltF g62
    refine st ?_
    simp [g62]
   rcases sp l59 with ⟨g65, l59⟩ | ⟨g65, l59⟩
   ·obtain ⟨g66, g67⟩ := andT g65
    have c68 := ltT g66
    have c69 := leT g67
    refine condT rfl g65 <| zAK <| zAe <| zAH <| zAN ?_
    obtain ⟨x70, q71, l59⟩ := bs l59
    obtain ⟨n72, q73, l59⟩ := bs l59
    obtain ⟨q74, q75⟩ := zEr q73
    try simp at q74
    try simp at q75
    have c76 := q74; simp only [Rng, inR] at c76
    obtain ⟨v77, q78, l59⟩ := bs l59
    refine last 43 2 [(1, .int .i64 depth2), (2, .mptr 0 0), (3, .mptr 1 0), (4, .mptr 2 0), (6, .int .i64 i57)] [[.int .i64 v77], [.fn (.func 57) [] [.mptr 0 0, .mptr 1 0]], (zGr.d p1)] ?_ fun zz hs => ?_
    ·refine zDF [] [8] mixed (n := 43) rfl (by decide) (by decide) ?_
     simp [q71, q74, q75]
     have r80 := (zEP x70 n72 a56 v77 q78).frame [0, 1] [[.int .i64 a56], [.fn (.func 57) [] [.mptr 0 0, .mptr 1 0]], [.int .i64 p1.Op, .int .i64 p1.N, .str p1.S, .sl (p1.L.map zGr.c)]] (by simp)
     try simp [q71, q74, q75] at r80
     refine callX r80 (by simp [q71, q74, q75]) rfl ?_
     simp [q71, q74, q75]
    refine zEs <| zBi ?_ hs
    have q79 : Rng .i64 (((i57 : Nat) : Int) + 1) := by simp only [Rng, inR]; omega
    try simp at q79
    refine last 43 2 [(1, .int .i64 depth2), (2, .mptr 0 0), (3, .mptr 1 0), (4, .mptr 2 0), (6, .int .i64 ((i57 + 1 : Nat) : Int))] [[.int .i64 v77], [.fn (.func 57) [] [.mptr 0 0, .mptr 1 0]], (zGr.d p1)] (st (by simp [q79])) fun zz hs => ?_
    exact ⟨(k61, v77, i57 + 1), hs, l59, by simp⟩
   refine condF rfl g65 <| zBD <| zAV ?_
   have q81 := Option.some.inj l59
   have q81 := q81.symm
   refine zAV <| zBK ?_
   obtain rfl := oi h
   simp [q81]
theorem zD8 (fuel : Nat) (p1 : zGr) (r : Bool) (h : zCT fuel p1 = some r) : Pure Tryz.prog 20 [.agg [.int .i64 p1.Op, .int .i64 p1.N, .str p1.S, .sl (p1.L.map zGr.c)]] (.bool r) := by
 rw [zCT] at h
 refine zAE Tryz.func20 (by rfl) (by rfl) (by simp) (by simp) (by simp) <| cutA 11 0 [(1, .mptr 0 0)] [(zGr.d p1)] <| cutA 11 0 [(1, .mptr 0 0), (3, .mptr 1 0)] [(zGr.d p1), [.int .i64 0]] <| cutA 11 0 [(1, .mptr 0 0), (3, .mptr 1 0), (4, .mptr 2 0)] [(zGr.d p1), [.int .i64 0], [.nilfn]] <| cutA 11 0 [(1, .mptr 0 0), (3, .mptr 1 0), (4, .mptr 2 0)] [(zGr.d p1), [.int .i64 0], [.fn (.func 57) [] [.mptr 1 0, .mptr 2 0]]] ?_
 obtain ⟨v2, q3, h⟩ := bs h
 refine cut 11 0 [(3, .mptr 1 0)] [(zGr.d p1), [.int .i64 v2], [.fn (.func 57) [] [.mptr 1 0, .mptr 2 0]]] ?_ ?_
 ·refine st ?_
  simp
  have r4 := (zGf fuel p1 1 0 v2 q3).frame [1, 2] [[.int .i64 p1.Op, .int .i64 p1.N, .str p1.S, .sl (p1.L.map zGr.c)], [.int .i64 0], [.fn (.func 57) [] [.mptr 1 0, .mptr 2 0]]] (by simp)
  try simp at r4
  refine zES r4 (by simp) rfl ?_
  simp
 refine cutA 11 0 [(2, .bool (ltI 200 v2))] [(zGr.d p1), [.int .i64 v2], [.fn (.func 57) [] [.mptr 1 0, .mptr 2 0]]] <| zAF ?_
 obtain rfl := oi h
 simp
theorem ref20_vars_ok (fuel : Nat) : (∀ (l1 : (List (List UInt8))) (p2 : zGr) (r : (List (List UInt8))) (_ : zA4 fuel l1 p2 = some r), Pure Tryz.prog 83 [.sl (l1.map cS), .agg [.int .i64 p2.Op, .int .i64 p2.N, .str p2.S, .sl (p2.L.map zGr.c)]] (.sl (r.map cS))) := by
 induction fuel with
 | zero => intro l1 p2 r h; rw [zA4] at h; cases h
 | succ fuel ih_ref20_vars =>
  intro l1 p2 r h
  rw [zA4] at h
  refine zAE Tryz.func83 (by rfl) (by rfl) (by simp) (by simp) (by simp) <| cutA 31 0 [(0, .sl (l1.map cS)), (3, .mptr 0 0)] [(zGr.d p2)] <| zAH <| cutA 31 0 [(0, .sl (l1.map cS)), (3, .mptr 0 0), (8, .bool (eqI p2.Op 2))] [(zGr.d p2)] <| spc h rfl (fun g3 h => ?_) fun g3 h => ?_
  ·obtain ⟨l5, q6, h⟩ := bs h
   obtain ⟨q7, q8⟩ := app_ok q6
   try simp at q7
   obtain ⟨l9, q10, h⟩ := bs h
   obtain ⟨q11, q12⟩ := app_ok q10
   try simp [q8] at q11
   refine cut 31 0 [(4, .osl ⟨1, 9⟩ (l9.map cS))] [(zGr.d p2)] ?_ ?_
   ·refine zDF [999] [7] mixed (n := 31) rfl (by decide) (by decide) ?_
    simp [q7, q8, q11, q12]
   refine zAF <| zAL ?_
   obtain rfl := oi h
   simp
  refine zAK <| zAe <| zAH <| cutA 31 0 [(0, .sl (l1.map cS)), (3, .mptr 0 0), (5, .int .i64 0)] [(zGr.d p2)] <| zAN ?_
  obtain ⟨o17, l18, h⟩ := bs h
  refine zBw (fun p : Nat × (List (List UInt8)) × Nat => mkS 31 0 [(0, .sl (p.2.1.map cS)), (3, .mptr 0 0), (5, .int .i64 p.2.2)] [(zGr.d p2)]) (fun p => zAx (zA4 fuel) p2 p.1 p.2.1 p.2.2 = some o17) (fun p => p.1) (fuel, l1, 0) l18 (zBS (by simp)) ?_
  rintro ⟨k19, l15, i16⟩ l18
  try dsimp only at l18 ⊢
  cases k19 with
  | zero =>
   rw [zAx] at l18; cases l18
  | succ k20 =>
   rw [zAx] at l18
   refine zAH <| cutA 31 0 [(0, .sl (l15.map cS)), (3, .mptr 0 0), (5, .int .i64 i16), (20, .bool (ltI ((i16 : Nat) : Int) (p2.L.length : Int)))] [(zGr.d p2)] <| spc l18 rfl (fun g21 l18 => ?_) fun g21 l18 => ?_
   ·have c22 := ltT g21
    refine zDD 0 3 rfl rfl rfl fun f23 => ?_
    rw [List.length_map] at f23
    refine zAK <| zAe <| zAH <| zAN ?_
    obtain ⟨x24, q25, l18⟩ := bs l18
    obtain ⟨v26, q27, l18⟩ := bs l18
    refine last 31 0 [(0, .sl (v26.map cS)), (3, .mptr 0 0), (5, .int .i64 i16)] [(zGr.d p2)] ?_ fun zz hs => ?_
    ·refine st ?_
     simp [q25]
     have r29 := ih_ref20_vars l15 x24 v26 q27
     try simp [q25] at r29
     refine zAA r29 (by simp) rfl ?_
     simp [q25]
    refine zEs <| zBi ?_ hs
    have q28 : Rng .i64 (((i16 : Nat) : Int) + 1) := by simp only [Rng, inR]; omega
    try simp at q28
    refine last 31 0 [(0, .sl (v26.map cS)), (3, .mptr 0 0), (5, .int .i64 ((i16 + 1 : Nat) : Int))] [(zGr.d p2)] (st (by simp [q28])) fun zz hs => ?_
    exact ⟨(k20, v26, i16 + 1), hs, l18, by simp⟩
   have c30 := ltF g21
   refine zDD 0 3 rfl rfl rfl fun f31 => ?_
   rw [List.length_map] at f31
   refine zBD <| zAV ?_
   have q32 := Option.some.inj l18
   have q32 := q32.symm
   refine zAV <| zBK <| zBi (t := mkS 31 0 [(0, .sl (o17.map cS))] [(zGr.d p2)]) ?_ (zBS (by simp [q32]))
   refine cutA 31 0 [(4, .sl (o17.map cS))] [(zGr.d p2)] <| zAF ?_
   obtain rfl := oi h
   simp
theorem zCl (fuel : Nat) (p1 : zGr) (r : (List (List UInt8))) (h : zBl fuel p1 = some r) : Pure Tryz.prog 37 [.agg [.int .i64 p1.Op, .int .i64 p1.N, .str p1.S, .sl (p1.L.map zGr.c)]] (.sl (r.map cS)) := by
 rw [zBl] at h
 refine zAE Tryz.func37 (by rfl) (by rfl) (by simp) (by simp) (by simp) <| cutA 5 0 [(1, .mptr 0 0)] [(zGr.d p1)] ?_
 obtain ⟨v2, q3, h⟩ := bs h
 refine cut 5 0 [(2, .sl (v2.map cS))] [(zGr.d p1)] ?_ ?_
 ·refine st ?_
  simp
  have r4 := ref20_vars_ok fuel ([] : List (List UInt8)) p1 v2 q3
  try simp at r4
  refine zAA r4 (by simp) rfl ?_
  simp
 refine zAF ?_
 obtain rfl := oi h
 simp
theorem zEl (fuel : Nat) (l1 : (List (List UInt8))) (s2 : (List UInt8)) (r : Int) (h : zCE fuel l1 s2 = some r) : Pure Tryz.prog 66 [.sl (l1.map cS), .str s2] (.int .i64 r) := by
 rw [zCE] at h
 refine zAE Tryz.func66 (by rfl) (by rfl) (by simp) (by simp) (by simp) <| cutA 19 0 [(0, .sl (l1.map cS)), (1, .str s2)] [] <| zAH <| cutA 19 0 [(0, .sl (l1.map cS)), (1, .str s2), (5, .int .i64 0)] [] <| zAN ?_
 obtain ⟨o5, l6, h⟩ := bs h
 refine zBw (fun p : Nat × Nat => mkS 19 0 [(0, .sl (l1.map cS)), (1, .str s2), (5, .int .i64 p.2)] []) (fun p => zA0 l1 s2 p.1 p.2 = some o5) (fun p => p.1) (fuel, 0) l6 (zBS (by simp)) ?_
 rintro ⟨k7, i3⟩ l6
 try dsimp only at l6 ⊢
 cases k7 with
 | zero =>
  rw [zA0] at l6; cases l6
 | succ k8 =>
  rw [zA0] at l6
  refine zAH <| cutA 19 0 [(0, .sl (l1.map cS)), (1, .str s2), (5, .int .i64 i3), (9, .bool (ltI ((i3 : Nat) : Int) (l1.length : Int)))] [] <| spc l6 rfl (fun g9 l6 => ?_) fun g9 l6 => ?_
  ·have c10 := ltT g9
   refine zE3 0 rfl fun f11 => ?_
   rw [List.length_map] at f11
   refine zAK <| zAe <| zAH <| zAN ?_
   obtain ⟨x12, q13, l6⟩ := bs l6
   refine cut 19 0 [(0, .sl (l1.map cS)), (1, .str s2), (5, .int .i64 i3), (17, .bool (eqS x12 s2))] [] (st (by simp [q13])) <| spc l6 rfl (fun g14 l6 => ?_) fun g14 l6 => ?_
   ·refine cutA 19 0 [(4, .int .i64 i3)] [] <| zAF <| zAX <| zAL ?_
    replace h := retL l6 h
    refine zAL <| zAX <| zAL ?_
    obtain rfl := oi h
    simp
   refine zAK <| zEs <| zAe ?_
   have q15 : Rng .i64 (((i3 : Nat) : Int) + 1) := by simp only [Rng, inR]; omega
   try simp at q15
   refine last 19 0 [(0, .sl (l1.map cS)), (1, .str s2), (5, .int .i64 ((i3 + 1 : Nat) : Int))] [] (st (by simp [q15])) fun zz hs => ?_
   exact ⟨(k8, i3 + 1), hs, l6, by simp⟩
  have c16 := ltF g9
  refine zE3 0 rfl fun f17 => ?_
  rw [List.length_map] at f17
  refine zBD <| zAV ?_
  rcases o5 with o5 | o4
  ·cases l6
  have q18 := Sum.inr.inj (Option.some.inj l6)
  replace h := elimR h
  refine zAV <| zBK <| zBi (t := mkS 19 0 [] []) ?_ (zBS (by simp))
  refine cutA 19 0 [(4, .int .i64 (-1))] [] <| zAF ?_
  obtain rfl := oi h
  simp
theorem zBW (c1 : UInt8) (r : Bool) (h : zBU c1 = some r) : Pure Tryz.prog 272 [.int .u8 c1.toNat] (.bool r) := by
 rw [zBU] at h
 refine zAE Tryz.func272 (by rfl) (by rfl) (by simp) (by simp) (by simp) <| cutA 9 0 [(0, .int .u8 c1.toNat)] [] <| cut 9 0 [(2, .bool ((leI 97 (c1.toNat : Int)) && (leI (c1.toNat : Int) 122)))] [] ?_ ?_
 ·rcases tf (leI 97 (c1.toNat : Int)) with g2 | g2
  ·have c3 := leT g2
   refine st ?_
   simp [g2]
  have c4 := leF g2
  refine st ?_
  simp [g2]
 refine zAF ?_
 obtain rfl := oi h
 simp
theorem zBu (c1 : UInt8) (r : Bool) (h : zBB c1 = some r) : Pure Tryz.prog 274 [.int .u8 c1.toNat] (.bool r) := by
 rw [zBB] at h
 refine zAE Tryz.func274 (by rfl) (by rfl) (by simp) (by simp) (by simp) <| cutA 9 0 [(0, .int .u8 c1.toNat)] [] <| cut 9 0 [(2, .bool ((leI 65 (c1.toNat : Int)) && (leI (c1.toNat : Int) 90)))] [] ?_ ?_
 ·rcases tf (leI 65 (c1.toNat : Int)) with g2 | g2
  ·have c3 := leT g2
   refine st ?_
   simp [g2]
  have c4 := leF g2
  refine st ?_
  simp [g2]
 refine zAF ?_
 obtain rfl := oi h
 simp
theorem zEM (c1 : UInt8) (r : Bool) (h : zDk c1 = some r) : Pure Tryz.prog 317 [.int .u8 c1.toNat] (.bool r) := by
 rw [zDk] at h
 refine zAE Tryz.func317 (by rfl) (by rfl) (by simp) (by simp) (by simp) <| cutA 9 0 [(0, .int .u8 c1.toNat)] [] <| cut 9 0 [(2, .bool ((leI 48 (c1.toNat : Int)) && (leI (c1.toNat : Int) 57)))] [] ?_ ?_
 ·rcases tf (leI 48 (c1.toNat : Int)) with g2 | g2
  ·have c3 := leT g2
   refine st ?_
   simp [g2]
  have c4 := leF g2
  refine st ?_
  simp [g2]
 refine zAF ?_
 obtain rfl := oi h
 simp
theorem zGW (c1 : UInt8) (r : Bool) (h : zBq c1 = some r) : Pure Tryz.prog 316 [.int .u8 c1.toNat] (.bool r) := by
 rw [zBq] at h
 refine zAE Tryz.func316 (by rfl) (by rfl) (by simp) (by simp) (by simp) <| cutA 17 0 [(0, .int .u8 c1.toNat)] [] ?_
 obtain ⟨b11, q12, h⟩ := bs h
 refine cut 17 0 [(2, .bool b11)] [] ?_ ?_
 ·obtain ⟨v2, q3, q12⟩ := bs q12
  rcases sp q12 with ⟨g4, q12⟩ | ⟨g4, q12⟩
  ·obtain rfl := oi q12
   refine st ?_
   simp [g4]
   have r13 := zBW c1 v2 q3
   try simp [g4] at r13
   refine zAA r13 (by simp) rfl ?_
   simp [g4]
  obtain ⟨v5, q6, q12⟩ := bs q12
  rcases sp q12 with ⟨g7, q12⟩ | ⟨g7, q12⟩
  ·obtain rfl := oi q12
   refine st ?_
   simp [g4, g7]
   have r14 := zBW c1 v2 q3
   try simp [g4, g7] at r14
   refine zAA r14 (by simp) rfl ?_
   simp [g4, g7]
   have r15 := zBu c1 v5 q6
   try simp [g4, g7] at r15
   refine zAA r15 (by simp) rfl ?_
   simp [g4, g7]
  obtain ⟨v8, q9, q12⟩ := bs q12
  rcases sp q12 with ⟨g10, q12⟩ | ⟨g10, q12⟩
  ·obtain rfl := oi q12
   have g4x := g4
   try simp only [g7, g10] at g4x
   have g7x := g7
   try simp only [g4, g10] at g7x
   have g10x := g10
   try simp only [g4, g7] at g10x
   refine zA3 <| WL.cut 2 17 0 [(0, .int .u8 c1.toNat), (4, .bool v2)] [] ?_ ?_
   ·simp [g4, g7, g10, g4x, g7x, g10x]
    have r16 := zBW c1 v2 q3
    try simp [g4, g7, g10, g4x, g7x, g10x] at r16
    refine zAA r16 (by simp) rfl ?_
    simp [g4, g7, g10, g4x, g7x, g10x]
   refine WL.cut 3 17 0 [(0, .int .u8 c1.toNat), (5, .bool v2), (7, .bool v5)] [] ?_ ?_
   ·simp [g4, g7, g10, g4x, g7x, g10x]
    have r17 := zBu c1 v5 q6
    try simp [g4, g7, g10, g4x, g7x, g10x] at r17
    refine zAA r17 (by simp) rfl ?_
    simp [g4, g7, g10, g4x, g7x, g10x]
   refine WL.cut 4 17 0 [(0, .int .u8 c1.toNat), (9, .bool v5), (11, .bool v8)] [] ?_ ?_
   ·simp [g4, g7, g10, g4x, g7x, g10x]
    have r18 := zEM c1 v8 q9
    try simp [g4, g7, g10, g4x, g7x, g10x] at r18
    refine zAA r18 (by simp) rfl ?_
    simp [g4, g7, g10, g4x, g7x, g10x]
   refine WL.last ?_
   simp [g4, g7, g10, g4x, g7x, g10x]
  obtain rfl := oi q12
  have g4x := g4
  try simp only [g7, g10] at g4x
  have g7x := g7
  try simp only [g4, g10] at g7x
  have g10x := g10
  try simp only [g4, g7] at g10x
  refine zA3 <| WL.cut 2 17 0 [(0, .int .u8 c1.toNat), (4, .bool v2)] [] ?_ ?_
  ·simp [g4, g7, g10, g4x, g7x, g10x]
   have r19 := zBW c1 v2 q3
   try simp [g4, g7, g10, g4x, g7x, g10x] at r19
   refine zAA r19 (by simp) rfl ?_
   simp [g4, g7, g10, g4x, g7x, g10x]
  refine WL.cut 3 17 0 [(0, .int .u8 c1.toNat), (5, .bool v2), (7, .bool v5)] [] ?_ ?_
  ·simp [g4, g7, g10, g4x, g7x, g10x]
   have r20 := zBu c1 v5 q6
   try simp [g4, g7, g10, g4x, g7x, g10x] at r20
   refine zAA r20 (by simp) rfl ?_
   simp [g4, g7, g10, g4x, g7x, g10x]
  refine WL.cut 4 17 0 [(0, .int .u8 c1.toNat), (9, .bool v5), (11, .bool v8)] [] ?_ ?_
  ·simp [g4, g7, g10, g4x, g7x, g10x]
   have r21 := zEM c1 v8 q9
   try simp [g4, g7, g10, g4x, g7x, g10x] at r21
   refine zAA r21 (by simp) rfl ?_
   simp [g4, g7, g10, g4x, g7x, g10x]
  refine WL.last ?_
  simp [g4, g7, g10, g4x, g7x, g10x]
 refine zAF ?_
 obtain rfl := oi h
 simp
theorem zGV (fuel : Nat) (s1 : (List UInt8)) (r : Bool) (h : zCK fuel s1 = some r) : Pure Tryz.prog 315 [.str s1] (.bool r) := by
 rw [zCK] at h
 refine zAE Tryz.func315 (by rfl) (by rfl) (by simp) (by simp) (by simp) <| cutA 15 0 [(0, .str s1)] [] <| zAH <| cutA 15 0 [(0, .str s1), (3, .int .i64 0)] [] <| zAN ?_
 obtain ⟨o4, l5, h⟩ := bs h
 refine zBw (fun p : Nat × Nat => mkS 15 0 [(0, .str s1), (3, .int .i64 p.2)] []) (fun p => zAu s1 p.1 p.2 = some o4) (fun p => p.1) (fuel, 0) l5 (zBS (by simp)) ?_
 rintro ⟨k6, i2⟩ l5
 try dsimp only at l5 ⊢
 cases k6 with
 | zero =>
  rw [zAu] at l5; cases l5
 | succ k7 =>
  rw [zAu] at l5
  refine zAH <| cutA 15 0 [(0, .str s1), (3, .int .i64 i2), (7, .bool (ltI ((i2 : Nat) : Int) (s1.length : Int)))] [] <| spc l5 rfl (fun g8 l5 => ?_) fun g8 l5 => ?_
  ·have c9 := ltT g8
   refine factS 0 rfl fun f10 => ?_
   refine zAK <| zAe <| zAH <| zAN ?_
   obtain ⟨c11, q12, l5⟩ := bs l5
   obtain ⟨v13, q14, l5⟩ := bs l5
   refine cut 15 0 [(0, .str s1), (3, .int .i64 i2), (14, .bool (!v13))] [] ?_ ?_
   ·refine st ?_
    simp [q12]
    have r19 := zGW c11 v13 q14
    try simp [q12] at r19
    refine zAA r19 (by simp) rfl ?_
    simp [q12]
   refine spc l5 rfl (fun g15 l5 => ?_) fun g15 l5 => ?_
   ·have g16 := notT g15
    refine cutA 15 0 [(2, .bool false)] [] <| zAF <| zAX <| zAL ?_
    replace h := retL l5 h
    refine zAL <| zAX <| zAL ?_
    obtain rfl := oi h
    simp
   have g17 := notF g15
   refine zAK <| zEs <| zAe ?_
   have q18 : Rng .i64 (((i2 : Nat) : Int) + 1) := by simp only [Rng, inR]; omega
   try simp at q18
   refine last 15 0 [(0, .str s1), (3, .int .i64 ((i2 + 1 : Nat) : Int))] [] (st (by simp [q18])) fun zz hs => ?_
   exact ⟨(k7, i2 + 1), hs, l5, by simp⟩
  have c20 := ltF g8
  refine factS 0 rfl fun f21 => ?_
  refine zBD <| zAV ?_
  rcases o4 with o4 | o3
  ·cases l5
  have q22 := Sum.inr.inj (Option.some.inj l5)
  replace h := elimR h
  refine zAV <| zBK <| zBi (t := mkS 15 0 [] []) ?_ (zBS (by simp))
  refine cutA 15 0 [(2, .bool true)] [] <| zAF ?_
  obtain rfl := oi h
  simp
theorem zCH (fuel : Nat) (s1 : (List UInt8)) (r : Bool) (h : zCD fuel s1 = some r) : Pure Tryz.prog 271 [.str s1] (.bool r) := by
 rw [zCD] at h
 refine zAE Tryz.func271 (by rfl) (by rfl) (by simp) (by simp) (by simp) <| cutA 15 0 [(0, .str s1)] [] ?_
 obtain ⟨b12, q13, h⟩ := bs h
 refine cut 15 0 [(2, .bool b12)] [] ?_ ?_
 ·rcases sp q13 with ⟨g2, q13⟩ | ⟨g2, q13⟩
  ·have c3 := leT g2
   refine factS 0 rfl fun f4 => ?_
   rcases sp q13 with ⟨g5, q13⟩ | ⟨g5, q13⟩
   ·have c6 := leT g5
    obtain ⟨v7, q8, q13⟩ := bs q13
    obtain rfl := oi q13
    refine st ?_
    simp [g2, g5]
    have r14 := zGV fuel s1 v7 q8
    try simp [g2, g5] at r14
    refine zAA r14 (by simp) rfl ?_
    simp [g2, g5]
   have c9 := leF g5
   obtain rfl := oi q13
   refine st ?_
   simp [g2, g5]
  have c10 := leF g2
  refine factS 0 rfl fun f11 => ?_
  obtain rfl := oi q13
  refine st ?_
  simp [g2]
 refine zAF ?_
 obtain rfl := oi h
 simp
theorem ref01_Keys_ok (r : (List (List UInt8))) (h : zCf = some r) : Pure Tryz.prog 273 [] (.sl (r.map cS)) := by
 rw [zCf] at h
 refine zAE Tryz.func273 (by rfl) (by rfl) (by simp) (by simp) (by simp) <| cutA 2 0 [] [] ?_
 obtain ⟨l1, q2, h⟩ := bs h
 obtain ⟨q3, q4⟩ := lit_ok q2
 refine cut 2 0 [(0, .osl ⟨1, 9⟩ (l1.map cS))] [] (st (by simp [q3, q4])) <| zAF ?_
 obtain rfl := oi h
 simp
theorem zDU (fuel : Nat) (s1 : (List UInt8)) (r : Bool) (h : zBc fuel s1 = some r) : Pure Tryz.prog 192 [.str s1] (.bool r) := by
 rw [zBc] at h
 refine zAE Tryz.func192 (by rfl) (by rfl) (by simp) (by simp) (by simp) <| cutA 16 0 [(0, .str s1)] [] ?_
 obtain ⟨b14, q15, h⟩ := bs h
 refine cut 16 0 [(2, .bool b14)] [] ?_ ?_
 ·obtain ⟨v2, q3, q15⟩ := bs q15
  rcases sp q15 with ⟨g4, q15⟩ | ⟨g4, q15⟩
  ·obtain ⟨c5, q6, q15⟩ := bs q15
   obtain ⟨v7, q8, q15⟩ := bs q15
   rcases sp q15 with ⟨g9, q15⟩ | ⟨g9, q15⟩
   ·obtain ⟨v10, q11, q15⟩ := bs q15
    obtain ⟨v12, q13, q15⟩ := bs q15
    obtain rfl := oi q15
    have g4x := g4
    try simp only [g9] at g4x
    have g9x := g9
    try simp only [g4] at g9x
    refine zA3 <| WL.cut 2 16 0 [(0, .str s1), (4, .bool v2)] [] ?_ ?_
    ·simp [g4, q6, g9, g4x, g9x]
     have r16 := zCH fuel s1 v2 q3
     try simp [g4, q6, g9, g4x, g9x] at r16
     refine zAA r16 (by simp) rfl ?_
     simp [g4, q6, g9, g4x, g9x]
    refine WL.cut 4 16 0 [(0, .str s1), (5, .bool v2), (8, .bool v7)] [] ?_ ?_
    ·simp [g4, q6, g9, g4x, g9x]
     have r17 := zBW c5 v7 q8
     try simp [g4, q6, g9, g4x, g9x] at r17
     refine zAA r17 (by simp) rfl ?_
     simp [g4, q6, g9, g4x, g9x]
    refine WL.cut 3 16 0 [(0, .str s1), (10, .bool v7), (11, .sl (v10.map cS))] [] ?_ ?_
    ·simp [g4, q6, g9, g4x, g9x]
     have r18 := ref01_Keys_ok v10 q11
     try simp [g4, q6, g9, g4x, g9x] at r18
     refine zAA r18 (by simp) rfl ?_
     simp [g4, q6, g9, g4x, g9x]
    refine WL.cut 2 16 0 [(10, .bool v7), (13, .int .i64 v12)] [] ?_ ?_
    ·simp [g4, q6, g9, g4x, g9x]
     have r19 := zEl fuel v10 s1 v12 q13
     try simp [g4, q6, g9, g4x, g9x] at r19
     refine zAA r19 (by simp) rfl ?_
     simp [g4, q6, g9, g4x, g9x]
    refine WL.last ?_
    simp [g4, q6, g9, g4x, g9x]
   obtain rfl := oi q15
   refine st ?_
   simp [g4, q6, g9]
   have r20 := zCH fuel s1 v2 q3
   try simp [g4, q6, g9] at r20
   refine zAA r20 (by simp) rfl ?_
   simp [g4, q6, g9]
   have r21 := zBW c5 v7 q8
   try simp [g4, q6, g9] at r21
   refine zAA r21 (by simp) rfl ?_
   simp [g4, q6, g9]
  obtain rfl := oi q15
  refine st ?_
  simp [g4]
  have r22 := zCH fuel s1 v2 q3
  try simp [g4] at r22
  refine zAA r22 (by simp) rfl ?_
  simp [g4]
 refine zAF ?_
 obtain rfl := oi h
 simp
theorem zDT (fuel : Nat) (s1 : (List UInt8)) (r : Bool) (h : zBb fuel s1 = some r) : Pure Tryz.prog 193 [.str s1] (.bool r) := by
 rw [zBb] at h
 refine zAE Tryz.func193 (by rfl) (by rfl) (by simp) (by simp) (by simp) <| cutA 10 0 [(0, .str s1)] [] ?_
 obtain ⟨b9, q10, h⟩ := bs h
 refine cut 10 0 [(2, .bool b9)] [] ?_ ?_
 ·obtain ⟨v2, q3, q10⟩ := bs q10
  rcases sp q10 with ⟨g4, q10⟩ | ⟨g4, q10⟩
  ·obtain ⟨c5, q6, q10⟩ := bs q10
   obtain ⟨v7, q8, q10⟩ := bs q10
   obtain rfl := oi q10
   refine st ?_
   simp [g4, q6]
   have r11 := zCH fuel s1 v2 q3
   try simp [g4, q6] at r11
   refine zAA r11 (by simp) rfl ?_
   simp [g4, q6]
   have r12 := zBu c5 v7 q8
   try simp [g4, q6] at r12
   refine zAA r12 (by simp) rfl ?_
   simp [g4, q6]
  obtain rfl := oi q10
  refine st ?_
  simp [g4]
  have r13 := zCH fuel s1 v2 q3
  try simp [g4] at r13
  refine zAA r13 (by simp) rfl ?_
  simp [g4]
 refine zAF ?_
 obtain rfl := oi h
 simp
theorem ref20_node_ok (fuel : Nat) (p1 : zGr) (r : Bool) (h : zCe fuel p1 = some r) : Pure Tryz.prog 119 [.agg [.int .i64 p1.Op, .int .i64 p1.N, .str p1.S, .sl (p1.L.map zGr.c)]] (.bool r) := by
 rw [zCe] at h
 refine zAE Tryz.func119 (by rfl) (by rfl) (by simp) (by simp) (by simp) <| cutA 84 0 [(1, .mptr 0 0)] [(zGr.d p1)] <| zAH <| cut 84 0 [(1, .mptr 0 0), (25, .bool (if !(eqI p1.N 0) then (!(eqI p1.Op 3)) || ((!(eqS p1.S ([] : List UInt8))) && ((!(eqI p1.Op 2)) && (!(eqI p1.Op 4)))) else (!(eqS p1.S ([] : List UInt8))) && ((!(eqI p1.Op 2)) && (!(eqI p1.Op 4)))))] [(zGr.d p1)] ?_ ?_
 ·rcases tf (!(eqI p1.N 0)) with g2 | g2
  ·have g3 := notT g2
   have c4 := eqF g3
   rcases tf (!(eqI p1.Op 3)) with g5 | g5
   ·have g6 := notT g5
    have c7 := eqF g6
    refine st ?_
    simp [g2, g5]
   have g8 := notF g5
   have c9 := eqT g8
   rcases tf (!(eqS p1.S ([] : List UInt8))) with g10 | g10
   ·have g11 := notT g10
    rcases tf (!(eqI p1.Op 2)) with g12 | g12
    ·have g13 := notT g12
     have c14 := eqF g13
     refine st ?_
     simp [g2, g5, g10, g12]
    have g15 := notF g12
    have c16 := eqT g15
    refine st ?_
    simp [g2, g5, g10, g12]
   have g17 := notF g10
   refine st ?_
   simp [g2, g5, g10]
  have g18 := notF g2
  have c19 := eqT g18
  rcases tf (!(eqS p1.S ([] : List UInt8))) with g20 | g20
  ·have g21 := notT g20
   rcases tf (!(eqI p1.Op 2)) with g22 | g22
   ·have g23 := notT g22
    have c24 := eqF g23
    refine st ?_
    simp [g2, g20, g22]
   have g25 := notF g22
   have c26 := eqT g25
   refine st ?_
   simp [g2, g20, g22]
  have g27 := notF g20
  refine st ?_
  simp [g2, g20]
 refine spc h rfl (fun g28 h => ?_) fun g28 h => ?_
 ·refine cutA 84 0 [(2, .bool false)] [(zGr.d p1)] <| zAF <| zAL ?_
  obtain rfl := oi h
  simp
 refine zAK <| zAe <| zAH <| cutA 84 0 [(1, .mptr 0 0), (27, .int .i64 p1.Op)] [(zGr.d p1)] <| zAN <| cutA 84 0 [(1, .mptr 0 0), (27, .int .i64 p1.Op), (28, .bool (eqI p1.Op 1))] [(zGr.d p1)] <| spc h rfl (fun g29 h => ?_) fun g29 h => ?_
 ·refine cutA 84 0 [(2, .bool (eqI (p1.L.length : Int) 0))] [(zGr.d p1)] <| zAF <| zAX <| zAL ?_
  obtain rfl := oi h
  simp
 refine cutA 84 0 [(1, .mptr 0 0), (27, .int .i64 p1.Op), (34, .bool (eqI p1.Op 2))] [(zGr.d p1)] <| spc h rfl (fun g32 h => ?_) fun g32 h => ?_
 ·obtain ⟨b37, q38, h⟩ := bs h
  refine cut 84 0 [(2, .bool b37)] [(zGr.d p1)] ?_ ?_
  ·obtain ⟨v34, q35, q38⟩ := bs q38
   rcases sp q38 with ⟨g36, q38⟩ | ⟨g36, q38⟩
   ·obtain rfl := oi q38
    refine st ?_
    simp [g36]
    have r39 := zDU fuel p1.S v34 q35
    try simp [g36] at r39
    refine zAA r39 (by simp) rfl ?_
    simp [g36]
   obtain rfl := oi q38
   refine st ?_
   simp [g36]
   have r40 := zDU fuel p1.S v34 q35
   try simp [g36] at r40
   refine zAA r40 (by simp) rfl ?_
   simp [g36]
  refine zAF <| zAX <| zAL ?_
  obtain rfl := oi h
  simp
 refine cutA 84 0 [(1, .mptr 0 0), (27, .int .i64 p1.Op), (45, .bool (eqI p1.Op 3))] [(zGr.d p1)] <| spc h rfl (fun g42 h => ?_) fun g42 h => ?_
 ·refine cut 84 0 [(2, .bool ((leI (-4503599627370496) p1.N) && ((leI p1.N 4503599627370496) && (eqI (p1.L.length : Int) 0))))] [(zGr.d p1)] ?_ ?_
  ·rcases tf (leI (-4503599627370496) p1.N) with g44 | g44
   ·have c45 := leT g44
    rcases tf (leI p1.N 4503599627370496) with g46 | g46
    ·have c47 := leT g46
     refine st ?_
     simp [g44, g46]
    have c48 := leF g46
    refine st ?_
    simp [g44, g46]
   have c49 := leF g44
   refine st ?_
   simp [g44]
  refine zAF <| zAX <| zAL ?_
  obtain rfl := oi h
  simp
 refine cutA 84 0 [(1, .mptr 0 0), (27, .int .i64 p1.Op), (61, .bool (eqI p1.Op 4))] [(zGr.d p1)] <| spc h rfl (fun g51 h => ?_) fun g51 h => ?_
 ·obtain ⟨b56, q57, h⟩ := bs h
  refine cut 84 0 [(2, .bool b56)] [(zGr.d p1)] ?_ ?_
  ·obtain ⟨v53, q54, q57⟩ := bs q57
   rcases sp q57 with ⟨g55, q57⟩ | ⟨g55, q57⟩
   ·obtain rfl := oi q57
    refine st ?_
    simp [g55]
    have r58 := zDT fuel p1.S v53 q54
    try simp [g55] at r58
    refine zAA r58 (by simp) rfl ?_
    simp [g55]
   obtain rfl := oi q57
   refine st ?_
   simp [g55]
   have r59 := zDT fuel p1.S v53 q54
   try simp [g55] at r59
   refine zAA r59 (by simp) rfl ?_
   simp [g55]
  refine zAF <| zAX <| zAL ?_
  obtain rfl := oi h
  simp
 refine cutA 84 0 [(1, .mptr 0 0), (72, .bool (eqI p1.Op 5))] [(zGr.d p1)] <| spc h rfl (fun g61 h => ?_) fun g61 h => ?_
 ·refine cut 84 0 [(2, .bool ((!(eqI (p1.L.length : Int) 1)) && (leI (p1.L.length : Int) 9)))] [(zGr.d p1)] ?_ ?_
  ·rcases tf (!(eqI (p1.L.length : Int) 1)) with g63 | g63
   ·have g64 := notT g63
    have c65 := eqF g64
    refine st ?_
    simp [g63]
   have g66 := notF g63
   have c67 := eqT g66
   refine st ?_
   simp [g63]
  refine zAF <| zAX <| zAL ?_
  obtain rfl := oi h
  simp
 refine zAK <| zEs <| zAe <| cutA 84 0 [(2, .bool false)] [(zGr.d p1)] <| zAF ?_
 obtain rfl := oi h
 simp
theorem zGU (fuel : Nat) : (∀ (p1 : zGr) (left2 : Int) (depth3 : Int) (r : Int) (_ : zAy fuel p1 left2 depth3 = some r), Pure Tryz.prog 65 [.agg [.int .i64 p1.Op, .int .i64 p1.N, .str p1.S, .sl (p1.L.map zGr.c)], .int .i64 left2, .int .i64 depth3] (.int .i64 r)) := by
 induction fuel with
 | zero => intro p1 left2 depth3 r h; rw [zAy] at h; cases h
 | succ fuel zGh =>
  intro p1 left2 depth3 r h
  rw [zAy] at h
  refine zAE Tryz.func65 (by rfl) (by rfl) (by simp) (by simp) (by simp) <| cutA 42 0 [(1, .int .i64 left2), (2, .int .i64 depth3), (3, .mptr 0 0)] [(zGr.d p1)] <| zAH ?_
  obtain ⟨b12, q13, h⟩ := bs h
  refine cut 42 0 [(1, .int .i64 left2), (2, .int .i64 depth3), (3, .mptr 0 0), (18, .bool b12)] [(zGr.d p1)] ?_ ?_
  ·rcases sp q13 with ⟨g4, q13⟩ | ⟨g4, q13⟩
   ·have c5 := ltT g4
    obtain rfl := oi q13
    refine st ?_
    simp [g4]
   have c6 := ltF g4
   rcases sp q13 with ⟨g7, q13⟩ | ⟨g7, q13⟩
   ·have c8 := ltT g7
    obtain rfl := oi q13
    refine st ?_
    simp [g4, g7]
   have c9 := ltF g7
   obtain ⟨v10, q11, q13⟩ := bs q13
   obtain rfl := oi q13
   refine st ?_
   simp [g4, g7]
   have r49 := ref20_node_ok fuel p1 v10 q11
   try simp [g4, g7] at r49
   refine zAA r49 (by simp) rfl ?_
   simp [g4, g7]
  refine spc h rfl (fun g14 h => ?_) fun g14 h => ?_
  ·refine cutA 42 0 [(6, .int .i64 (-1))] [(zGr.d p1)] <| zAF <| zAL ?_
   obtain rfl := oi h
   simp
  refine zAK <| zAe ?_
  obtain ⟨n15, q16, h⟩ := bs h
  obtain ⟨q17, q18⟩ := zEr q16
  try simp at q17
  try simp at q18
  have c19 := q17; simp only [Rng, inR] at c19
  refine cut 42 0 [(1, .int .i64 n15), (2, .int .i64 depth3), (3, .mptr 0 0)] [(zGr.d p1)] (st (by simp [q17, q18])) <| zAH <| cutA 42 0 [(1, .int .i64 n15), (2, .int .i64 depth3), (3, .mptr 0 0), (7, .int .i64 0)] [(zGr.d p1)] <| zAN ?_
  obtain ⟨o22, l23, h⟩ := bs h
  refine zBw (fun p : Nat × Int × Nat => mkS 42 0 [(1, .int .i64 p.2.1), (2, .int .i64 depth3), (3, .mptr 0 0), (7, .int .i64 p.2.2)] [(zGr.d p1)]) (fun p => zAj (zAy fuel) p1 depth3 p.1 p.2.1 p.2.2 = some o22) (fun p => p.1) (fuel, n15, 0) l23 (zBS (by simp)) ?_
  rintro ⟨k24, left20, i21⟩ l23
  try dsimp only at l23 ⊢
  cases k24 with
  | zero =>
   rw [zAj] at l23; cases l23
  | succ k25 =>
   rw [zAj] at l23
   refine zAH <| cut 42 0 [(1, .int .i64 left20), (2, .int .i64 depth3), (3, .mptr 0 0), (7, .int .i64 i21), (29, .bool ((ltI ((i21 : Nat) : Int) (p1.L.length : Int)) && (leI 0 left20)))] [(zGr.d p1)] ?_ ?_
   ·rcases tf (ltI ((i21 : Nat) : Int) (p1.L.length : Int)) with g26 | g26
    ·have c27 := ltT g26
     refine zDD 0 3 rfl rfl rfl fun f28 => ?_
     rw [List.length_map] at f28
     refine st ?_
     simp [g26]
    have c29 := ltF g26
    refine zDD 0 3 rfl rfl rfl fun f30 => ?_
    rw [List.length_map] at f30
    refine st ?_
    simp [g26]
   rcases sp l23 with ⟨g31, l23⟩ | ⟨g31, l23⟩
   ·obtain ⟨g32, g33⟩ := andT g31
    have c34 := ltT g32
    have c36 := leT g33
    refine condT rfl g31 <| zDD 0 3 rfl rfl rfl fun f35 => ?_
    rw [List.length_map] at f35
    refine zAK <| zAe <| zAH <| zAN ?_
    obtain ⟨x37, q38, l23⟩ := bs l23
    obtain ⟨n39, q40, l23⟩ := bs l23
    obtain ⟨q41, q42⟩ := zEr q40
    try simp at q41
    try simp at q42
    have c43 := q41; simp only [Rng, inR] at c43
    obtain ⟨v44, q45, l23⟩ := bs l23
    refine last 42 0 [(1, .int .i64 v44), (2, .int .i64 depth3), (3, .mptr 0 0), (7, .int .i64 i21)] [(zGr.d p1)] ?_ fun zz hs => ?_
    ·refine st ?_
     simp [q38, q41, q42]
     have r47 := zGh x37 left20 n39 v44 q45
     try simp [q38, q41, q42] at r47
     refine zAA r47 (by simp) rfl ?_
     simp [q38, q41, q42]
    refine zEs <| zBi ?_ hs
    have q46 : Rng .i64 (((i21 : Nat) : Int) + 1) := by simp only [Rng, inR]; omega
    try simp at q46
    refine last 42 0 [(1, .int .i64 v44), (2, .int .i64 depth3), (3, .mptr 0 0), (7, .int .i64 ((i21 + 1 : Nat) : Int))] [(zGr.d p1)] (st (by simp [q46])) fun zz hs => ?_
    exact ⟨(k25, v44, i21 + 1), hs, l23, by simp⟩
   refine condF rfl g31 <| zBD <| zAV ?_
   have q48 := Option.some.inj l23
   have q48 := q48.symm
   refine zAV <| zBK <| zBi (t := mkS 42 0 [(1, .int .i64 o22)] [(zGr.d p1)]) ?_ (zBS (by simp [q48]))
   refine cutA 42 0 [(6, .int .i64 o22)] [(zGr.d p1)] <| zAF ?_
   obtain rfl := oi h
   simp
theorem zBt (fuel : Nat) (p1 : zGr) (r : Bool) (h : zBp fuel p1 = some r) : Pure Tryz.prog 23 [.agg [.int .i64 p1.Op, .int .i64 p1.N, .str p1.S, .sl (p1.L.map zGr.c)]] (.bool r) := by
 rw [zBp] at h
 refine zAE Tryz.func23 (by rfl) (by rfl) (by simp) (by simp) (by simp) <| cutA 25 0 [(1, .mptr 0 0)] [(zGr.d p1)] <| zAH ?_
 obtain ⟨v2, q3, h⟩ := bs h
 refine cut 25 0 [(1, .mptr 0 0), (7, .bool (ltI v2 0))] [(zGr.d p1)] ?_ ?_
 ·refine st ?_
  simp
  have r35 := zGU fuel p1 20000 400 v2 q3
  try simp at r35
  refine zAA r35 (by simp) rfl ?_
  simp
 refine spc h rfl (fun g4 h => ?_) fun g4 h => ?_
 ·have c5 := ltT g4
  refine cutA 25 0 [(2, .bool false)] [(zGr.d p1)] <| zAF <| zAL ?_
  obtain rfl := oi h
  simp
 have c6 := ltF g4
 refine zAK <| zAe ?_
 obtain ⟨v7, q8, h⟩ := bs h
 refine cut 25 0 [(3, .sl (v7.map cS))] [(zGr.d p1)] ?_ ?_
 ·refine st ?_
  simp
  have r34 := zCl fuel p1 v7 q8
  try simp at r34
  refine zAA r34 (by simp) rfl ?_
  simp
 refine zAH <| cutA 25 0 [(3, .sl (v7.map cS)), (4, .int .i64 0)] [(zGr.d p1)] <| zAN ?_
 obtain ⟨o11, l12, h⟩ := bs h
 refine zBw (fun p : Nat × Nat => mkS 25 0 [(3, .sl (v7.map cS)), (4, .int .i64 p.2)] [(zGr.d p1)]) (fun p => zAt fuel v7 p.1 p.2 = some o11) (fun p => p.1) (fuel, 0) l12 (zBS (by simp)) ?_
 rintro ⟨k13, i9⟩ l12
 try dsimp only at l12 ⊢
 cases k13 with
 | zero =>
  rw [zAt] at l12; cases l12
 | succ k14 =>
  rw [zAt] at l12
  refine zAH <| cutA 25 0 [(3, .sl (v7.map cS)), (4, .int .i64 i9), (13, .bool (ltI ((i9 : Nat) : Int) (v7.length : Int)))] [(zGr.d p1)] <| spc l12 rfl (fun g15 l12 => ?_) fun g15 l12 => ?_
  ·have c16 := ltT g15
   refine zE3 3 rfl fun f17 => ?_
   rw [List.length_map] at f17
   refine zAK <| zAe <| zAH <| zAN ?_
   obtain ⟨l18, q19, l12⟩ := bs l12
   obtain ⟨q20, q21⟩ := subC_ok q19
   try simp at q20
   try simp at q21
   obtain ⟨x22, q23, l12⟩ := bs l12
   obtain ⟨v24, q25, l12⟩ := bs l12
   refine cut 25 0 [(3, .sl (v7.map cS)), (4, .int .i64 i9), (24, .bool (leI 0 v24))] [(zGr.d p1)] ?_ ?_
   ·refine zBZ [] mixed (n := 25) rfl (by decide) ?_
    simp [q20, q21, q23]
    have r30 := zEl fuel l18 x22 v24 q25
    try simp [q20, q21, q23] at r30
    refine callD r30 (by simp) rfl ?_
    simp [q20, q21, q23]
   refine spc l12 rfl (fun g26 l12 => ?_) fun g26 l12 => ?_
   ·have c27 := leT g26
    refine cutA 25 0 [(2, .bool false)] [(zGr.d p1)] <| zAF <| zAX <| zAL ?_
    replace h := retL l12 h
    refine zAL <| zAX <| zAL ?_
    obtain rfl := oi h
    simp
   have c28 := leF g26
   refine zAK <| zEs <| zAe ?_
   have q29 : Rng .i64 (((i9 : Nat) : Int) + 1) := by simp only [Rng, inR]; omega
   try simp at q29
   refine last 25 0 [(3, .sl (v7.map cS)), (4, .int .i64 ((i9 + 1 : Nat) : Int))] [(zGr.d p1)] (st (by simp [q29])) fun zz hs => ?_
   exact ⟨(k14, i9 + 1), hs, l12, by simp⟩
  have c31 := ltF g15
  refine zE3 3 rfl fun f32 => ?_
  rw [List.length_map] at f32
  refine zBD <| zAV ?_
  rcases o11 with o11 | o10
  ·cases l12
  have q33 := Sum.inr.inj (Option.some.inj l12)
  replace h := elimR h
  refine zAV <| zBK <| zBi (t := mkS 25 0 [] [(zGr.d p1)]) ?_ (zBS (by simp))
  refine cutA 25 0 [(2, .bool true)] [(zGr.d p1)] <| zAF ?_
  obtain rfl := oi h
  simp
theorem zF9 (c1 : UInt8) (r : Int) (h : zCL c1 = some r) : Pure Tryz.prog 254 [.int .u8 c1.toNat] (.int .i64 r) := by
 rw [zCL] at h
 refine zAE Tryz.func254 (by rfl) (by rfl) (by simp) (by simp) (by simp) <| cutA 30 0 [(0, .int .u8 c1.toNat)] [] <| zAH <| zAN <| cut 30 0 [(0, .int .u8 c1.toNat), (3, .bool ((leI 97 (c1.toNat : Int)) && (leI (c1.toNat : Int) 122)))] [] ?_ ?_
 ·rcases tf (leI 97 (c1.toNat : Int)) with g2 | g2
  ·have c3 := leT g2
   refine st ?_
   simp [g2]
  have c4 := leF g2
  refine st ?_
  simp [g2]
 rcases sp h with ⟨g5, h⟩ | ⟨g5, h⟩
 ·obtain ⟨g6, g7⟩ := andT g5
  have c8 := leT g6
  have c9 := leT g7
  refine condT rfl g5 <| cutA 30 0 [(2, .int .i64 1)] [] <| zAF <| zAX <| zAL ?_
  obtain rfl := oi h
  simp
 refine condF rfl g5 <| cut 30 0 [(0, .int .u8 c1.toNat), (10, .bool ((leI 65 (c1.toNat : Int)) && (leI (c1.toNat : Int) 90)))] [] ?_ ?_
 ·rcases tf (leI 65 (c1.toNat : Int)) with g10 | g10
  ·have c11 := leT g10
   refine st ?_
   simp [g10]
  have c12 := leF g10
  refine st ?_
  simp [g10]
 rcases sp h with ⟨g13, h⟩ | ⟨g13, h⟩
 ·obtain ⟨g14, g15⟩ := andT g13
  have c16 := leT g14
  have c17 := leT g15
  refine condT rfl g13 <| cutA 30 0 [(2, .int .i64 2)] [] <| zAF <| zAX <| zAL ?_
  obtain rfl := oi h
  simp
 refine condF rfl g13 <| cut 30 0 [(0, .int .u8 c1.toNat), (17, .bool ((leI 48 (c1.toNat : Int)) && (leI (c1.toNat : Int) 57)))] [] ?_ ?_
 ·rcases tf (leI 48 (c1.toNat : Int)) with g18 | g18
  ·have c19 := leT g18
   refine st ?_
   simp [g18]
  have c20 := leF g18
  refine st ?_
  simp [g18]
 rcases sp h with ⟨g21, h⟩ | ⟨g21, h⟩
 ·obtain ⟨g22, g23⟩ := andT g21
  have c24 := leT g22
  have c25 := leT g23
  refine condT rfl g21 <| cutA 30 0 [(2, .int .i64 3)] [] <| zAF <| zAX <| zAL ?_
  obtain rfl := oi h
  simp
 refine condF rfl g21 <| cutA 30 0 [(0, .int .u8 c1.toNat), (24, .bool (eqI (c1.toNat : Int) 95))] [] <| spc h rfl (fun g26 h => ?_) fun g26 h => ?_
 ·have c27 := eqT g26
  refine cutA 30 0 [(2, .int .i64 4)] [] <| zAF <| zAX <| zAL ?_
  obtain rfl := oi h
  simp
 have c28 := eqF g26
 refine cutA 30 0 [(27, .bool (eqI (c1.toNat : Int) 46))] [] <| spc h rfl (fun g29 h => ?_) fun g29 h => ?_
 ·have c30 := eqT g29
  refine cutA 30 0 [(2, .int .i64 5)] [] <| zAF <| zAX <| zAL ?_
  obtain rfl := oi h
  simp
 have c31 := eqF g29
 refine zAK <| zEs <| zAe <| cutA 30 0 [(2, .int .i64 0)] [] <| zAF ?_
 obtain rfl := oi h
 simp
theorem zDd (fuel : Nat) (s1 : (List UInt8)) (first2 : Int) (r : Bool) (h : zBV fuel s1 first2 = some r) : Pure Tryz.prog 289 [.str s1, .int .i64 first2] (.bool r) := by
 rw [zBV] at h
 refine zAE Tryz.func289 (by rfl) (by rfl) (by simp) (by simp) (by simp) <| cutA 38 0 [(0, .str s1), (1, .int .i64 first2)] [] <| zAH ?_
 obtain ⟨b13, q14, h⟩ := bs h
 refine cut 38 0 [(0, .str s1), (21, .bool b13)] [] ?_ ?_
 ·rcases sp q14 with ⟨g3, q14⟩ | ⟨g3, q14⟩
  ·obtain rfl := oi q14
   refine st ?_
   simp [g3]
  rcases sp q14 with ⟨g4, q14⟩ | ⟨g4, q14⟩
  ·have c5 := ltT g4
   refine factS 0 rfl fun f6 => ?_
   obtain rfl := oi q14
   refine st ?_
   simp [g3, g4]
  have c7 := ltF g4
  refine factS 0 rfl fun f8 => ?_
  obtain ⟨c9, q10, q14⟩ := bs q14
  obtain ⟨v11, q12, q14⟩ := bs q14
  obtain rfl := oi q14
  refine st ?_
  simp [g3, g4, q10]
  have r46 := zF9 c9 v11 q12
  try simp [g3, g4, q10] at r46
  refine zAA r46 (by simp) rfl ?_
  simp [g3, g4, q10]
 refine spc h rfl (fun g15 h => ?_) fun g15 h => ?_
 ·refine cutA 38 0 [(4, .bool false)] [] <| zAF <| zAL ?_
  obtain rfl := oi h
  simp
 refine zAK <| zAe <| zAH ?_
 obtain ⟨l16, q17, h⟩ := bs h
 obtain ⟨q18, q19⟩ := bytesC_ok q17
 refine cut 38 0 [(23, .sl (l16.map cU)), (24, .int .i64 l16.length), (25, .int .i64 0)] [] (st (by simp [q18, q19])) <| zAN ?_
 obtain ⟨o22, l23, h⟩ := bs h
 refine zBw (fun p : Nat × Nat => mkS 38 0 [(23, .sl (l16.map cU)), (24, .int .i64 l16.length), (25, .int .i64 p.2)] []) (fun p => zA2 l16 p.1 p.2 = some o22) (fun p => p.1) (fuel, 0) l23 (zBS (by simp)) ?_
 rintro ⟨k24, i20⟩ l23
 try dsimp only at l23 ⊢
 cases k24 with
 | zero =>
  rw [zA2] at l23; cases l23
 | succ k25 =>
  rw [zA2] at l23
  refine cutA 38 0 [(23, .sl (l16.map cU)), (24, .int .i64 l16.length), (25, .int .i64 i20), (26, .bool (ltI ((i20 : Nat) : Int) (l16.length : Int)))] [] <| zAH <| spc l23 rfl (fun g26 l23 => ?_) fun g26 l23 => ?_
  ·have c27 := ltT g26
   refine zE3 23 rfl fun f28 => ?_
   rw [List.length_map] at f28
   refine zAK <| zAe <| zAH <| zAN ?_
   obtain ⟨x29, q30, l23⟩ := bs l23
   refine cut 38 0 [(6, .int .u8 x29.toNat), (23, .sl (l16.map cU)), (24, .int .i64 l16.length), (25, .int .i64 i20)] [] (st (by simp [q30])) ?_
   obtain ⟨v31, q32, l23⟩ := bs l23
   refine cut 38 0 [(7, .int .i64 v31), (23, .sl (l16.map cU)), (24, .int .i64 l16.length), (25, .int .i64 i20)] [] ?_ ?_
   ·refine st ?_
    simp
    have r42 := zF9 x29 v31 q32
    try simp at r42
    refine zAA r42 (by simp) rfl ?_
    simp
   refine cut 38 0 [(23, .sl (l16.map cU)), (24, .int .i64 l16.length), (25, .int .i64 i20), (36, .bool ((eqI v31 0) || (eqI v31 5)))] [] ?_ ?_
   ·rcases tf (eqI v31 0) with g33 | g33
    ·have c34 := eqT g33
     refine st ?_
     simp [g33]
    have c35 := eqF g33
    refine st ?_
    simp [g33]
   rcases sp l23 with ⟨g36, l23⟩ | ⟨g36, l23⟩
   ·refine condT rfl g36 <| cutA 38 0 [(4, .bool false)] [] <| zAF <| zAX <| zAL ?_
    replace h := retL l23 h
    refine zAL <| zAX <| zAL ?_
    obtain rfl := oi h
    simp
   obtain ⟨g37, g38⟩ := orF g36
   have c39 := eqF g37
   have c40 := eqF g38
   refine condF rfl g36 <| zAK <| zEs <| zAe ?_
   have q41 : Rng .i64 (((i20 : Nat) : Int) + 1) := by simp only [Rng, inR]; omega
   try simp at q41
   refine last 38 0 [(23, .sl (l16.map cU)), (24, .int .i64 l16.length), (25, .int .i64 ((i20 + 1 : Nat) : Int))] [] (st (by simp [q41])) fun zz hs => ?_
   exact ⟨(k25, i20 + 1), hs, l23, by simp⟩
  have c43 := ltF g26
  refine zE3 23 rfl fun f44 => ?_
  rw [List.length_map] at f44
  refine zBD <| zAV ?_
  rcases o22 with o22 | o21
  ·cases l23
  have q45 := Sum.inr.inj (Option.some.inj l23)
  replace h := elimR h
  refine zAV <| zBK <| zBi (t := mkS 38 0 [] []) ?_ (zBS (by simp))
  refine cutA 38 0 [(4, .bool true)] [] <| zAF ?_
  obtain rfl := oi h
  simp
theorem zDM (fuel : Nat) (s1 : (List (List UInt8))) (v2 : (List UInt8)) (r : Int) (h : zBC fuel s1 v2 = some r) : Pure Tryz.prog 325 [.sl (s1.map cS), .str v2] (.int .i64 r) := by
 rw [zBC] at h
 refine zAE Tryz.func325 (by rfl) (by rfl) (by simp) (by simp) (by simp) <| cutA 19 0 [(0, .sl (s1.map cS)), (1, .str v2)] [] <| zAH <| cutA 19 0 [(0, .sl (s1.map cS)), (1, .str v2), (7, .int .i64 s1.length), (8, .int .i64 0)] [] <| zAN ?_
 obtain ⟨o5, l6, h⟩ := bs h
 refine zBw (fun p : Nat × Nat => mkS 19 0 [(0, .sl (s1.map cS)), (1, .str v2), (7, .int .i64 s1.length), (8, .int .i64 p.2)] []) (fun p => zAS s1 v2 p.1 p.2 = some o5) (fun p => p.1) (fuel, 0) l6 (zBS (by simp)) ?_
 rintro ⟨k7, i3⟩ l6
 try dsimp only at l6 ⊢
 cases k7 with
 | zero =>
  rw [zAS] at l6; cases l6
 | succ k8 =>
  rw [zAS] at l6
  refine cutA 19 0 [(0, .sl (s1.map cS)), (1, .str v2), (7, .int .i64 s1.length), (8, .int .i64 i3), (9, .bool (ltI ((i3 : Nat) : Int) (s1.length : Int)))] [] <| zAH <| spc l6 rfl (fun g9 l6 => ?_) fun g9 l6 => ?_
  ·have c10 := ltT g9
   refine zE3 0 rfl fun f11 => ?_
   rw [List.length_map] at f11
   refine zAK <| zAe <| zAH <| zAN <| cutA 19 0 [(0, .sl (s1.map cS)), (1, .str v2), (5, .int .i64 i3), (7, .int .i64 s1.length), (8, .int .i64 i3)] [] ?_
   obtain ⟨x12, q13, l6⟩ := bs l6
   refine cut 19 0 [(0, .sl (s1.map cS)), (1, .str v2), (5, .int .i64 i3), (7, .int .i64 s1.length), (8, .int .i64 i3), (16, .bool (eqS v2 x12))] [] (st (by simp [q13])) <| spc l6 rfl (fun g14 l6 => ?_) fun g14 l6 => ?_
   ·refine cutA 19 0 [(4, .int .i64 i3)] [] <| zAF <| zAX <| zAL ?_
    replace h := retL l6 h
    refine zAL <| zAX <| zAL ?_
    obtain rfl := oi h
    simp
   refine zAK <| zEs <| zAe ?_
   have q15 : Rng .i64 (((i3 : Nat) : Int) + 1) := by simp only [Rng, inR]; omega
   try simp at q15
   refine last 19 0 [(0, .sl (s1.map cS)), (1, .str v2), (7, .int .i64 s1.length), (8, .int .i64 ((i3 + 1 : Nat) : Int))] [] (st (by simp [q15])) fun zz hs => ?_
   exact ⟨(k8, i3 + 1), hs, l6, by simp⟩
  have c16 := ltF g9
  refine zE3 0 rfl fun f17 => ?_
  rw [List.length_map] at f17
  refine zBD <| zAV ?_
  rcases o5 with o5 | o4
  ·cases l6
  have q18 := Sum.inr.inj (Option.some.inj l6)
  replace h := elimR h
  refine zAV <| zBK <| zBi (t := mkS 19 0 [] []) ?_ (zBS (by simp))
  refine cutA 19 0 [(4, .int .i64 (-1))] [] <| zAF ?_
  obtain rfl := oi h
  simp
theorem zCw (fuel : Nat) (s1 : (List (List UInt8))) (v2 : (List UInt8)) (r : Bool) (h : zAb fuel s1 v2 = some r) : Pure Tryz.prog 294 [.sl (s1.map cS), .str v2] (.bool r) := by
 rw [zAb] at h
 refine zAE Tryz.func294 (by rfl) (by rfl) (by simp) (by simp) (by simp) <| cutA 9 0 [(0, .sl (s1.map cS)), (1, .str v2)] [] ?_
 obtain ⟨v3, q4, h⟩ := bs h
 refine cut 9 0 [(4, .bool (leI 0 v3))] [] ?_ ?_
 ·refine st ?_
  simp
  have r5 := zDM fuel s1 v2 v3 q4
  try simp at r5
  refine zAA r5 (by simp) rfl ?_
  simp
 refine zAF ?_
 obtain rfl := oi h
 simp
theorem ident_word_ok (fuel : Nat) (s1 : (List UInt8)) (r : Bool) (h : zCg fuel s1 = some r) : Pure Tryz.prog 290 [.str s1] (.bool r) := by
 rw [zCg] at h
 refine zAE Tryz.func290 (by rfl) (by rfl) (by simp) (by simp) (by simp) <| cutA 6 0 [(0, .str s1)] [] ?_
 obtain ⟨v2, q3, h⟩ := bs h
 obtain ⟨v4, q5, h⟩ := bs h
 refine cut 6 0 [(2, .bool v4)] [] ?_ ?_
 ·refine st ?_
  simp
  have r6 := zDI [97, 110, 100, 97, 108, 115, 111, 32, 99, 97, 115, 101, 32, 100, 97, 116, 97, 32, 100, 105, 118, 32, 101, 108, 115, 101, 32, 101, 110, 100, 32, 102, 110, 32, 102, 117, 110, 32, 102, 117, 110, 99, 116, 111, 114, 32, 103, 101, 110, 101, 114, 97, 116, 105, 118, 101, 32, 105, 102, 32, 105, 109, 112, 111, 114, 116, 32, 105, 110, 32, 105, 110, 99, 108, 117, 100, 101, 32, 108, 101, 116, 32, 109, 111, 100, 32, 109, 111, 100, 117, 108, 101, 32, 111, 102, 32, 111, 112, 101, 110, 32, 111, 114, 101, 108, 115, 101, 32, 112, 97, 99, 107, 32, 115, 104, 97, 114, 105, 110, 103, 32, 115, 105, 103, 32, 115, 105, 103, 110, 97, 116, 117, 114, 101, 32, 115, 116, 114, 117, 99, 116, 32, 115, 116, 114, 117, 99, 116, 117, 114, 101, 32, 116, 104, 101, 110, 32, 116, 121, 112, 101, 32, 117, 110, 112, 97, 99, 107, 32, 118, 97, 108, 32, 119, 105, 116, 104] v2 q3
  try simp at r6
  refine zAA r6 (by simp) rfl ?_
  simp
  have r7 := zCw fuel v2 s1 v4 q5
  try simp at r7
  refine zAA r7 (by simp) rfl ?_
  simp
 refine zAF ?_
 obtain rfl := oi h
 simp
theorem zFY (fuel : Nat) (s1 : (List UInt8)) (r : Bool) (h : zBe fuel s1 = some r) : Pure Tryz.prog 208 [.str s1] (.bool r) := by
 rw [zBe] at h
 refine zAE Tryz.func208 (by rfl) (by rfl) (by simp) (by simp) (by simp) <| cutA 10 0 [(0, .str s1)] [] ?_
 obtain ⟨b7, q8, h⟩ := bs h
 refine cut 10 0 [(2, .bool b7)] [] ?_ ?_
 ·obtain ⟨v2, q3, q8⟩ := bs q8
  rcases sp q8 with ⟨g4, q8⟩ | ⟨g4, q8⟩
  ·obtain ⟨v5, q6, q8⟩ := bs q8
   obtain rfl := oi q8
   refine st ?_
   simp [g4]
   have r9 := zDd fuel s1 1 v2 q3
   try simp [g4] at r9
   refine zAA r9 (by simp) rfl ?_
   simp [g4]
   have r10 := ident_word_ok fuel s1 v5 q6
   try simp [g4] at r10
   refine zAA r10 (by simp) rfl ?_
   simp [g4]
  obtain rfl := oi q8
  refine st ?_
  simp [g4]
  have r11 := zDd fuel s1 1 v2 q3
  try simp [g4] at r11
  refine zAA r11 (by simp) rfl ?_
  simp [g4]
 refine zAF ?_
 obtain rfl := oi h
 simp
theorem zFX (fuel : Nat) (s1 : (List UInt8)) (r : Bool) (h : zBd fuel s1 = some r) : Pure Tryz.prog 209 [.str s1] (.bool r) := by
 rw [zBd] at h
 refine zAE Tryz.func209 (by rfl) (by rfl) (by simp) (by simp) (by simp) <| cutA 5 0 [(0, .str s1)] [] ?_
 obtain ⟨v2, q3, h⟩ := bs h
 refine cut 5 0 [(2, .bool v2)] [] ?_ ?_
 ·refine st ?_
  simp
  have r4 := zDd fuel s1 2 v2 q3
  try simp at r4
  refine zAA r4 (by simp) rfl ?_
  simp
 refine zAF ?_
 obtain rfl := oi h
 simp
theorem zFn (fuel : Nat) (p1 : zGr) (r : Bool) (h : zBy fuel p1 = some r) : Pure Tryz.prog 132 [.agg [.int .i64 p1.Op, .int .i64 p1.N, .str p1.S, .sl (p1.L.map zGr.c)]] (.bool r) := by
 rw [zBy] at h
 refine zAE Tryz.func132 (by rfl) (by rfl) (by simp) (by simp) (by simp) <| cutA 88 0 [(1, .mptr 0 0)] [(zGr.d p1)] <| cutA 88 0 [(1, .mptr 0 0), (3, .int .i64 p1.L.length)] [(zGr.d p1)] <| zAH <| cutA 88 0 [(1, .mptr 0 0), (3, .int .i64 p1.L.length), (8, .int .i64 p1.Op)] [(zGr.d p1)] <| zAN <| cutA 88 0 [(1, .mptr 0 0), (3, .int .i64 p1.L.length), (8, .int .i64 p1.Op), (9, .bool (eqI p1.Op 1))] [(zGr.d p1)] ?_
 refine spc h rfl (fun g2 h => ?_) fun g2 h => ?_
 ·refine cut 88 0 [(2, .bool ((eqI (p1.L.length : Int) 0) && ((eqI p1.N 0) && (eqS p1.S ([] : List UInt8)))))] [(zGr.d p1)] ?_ ?_
  ·rcases tf (eqI (p1.L.length : Int) 0) with g4 | g4
   ·have c5 := eqT g4
    rcases tf (eqI p1.N 0) with g6 | g6
    ·have c7 := eqT g6
     refine st ?_
     simp [g4, g6]
    have c8 := eqF g6
    refine st ?_
    simp [g4, g6]
   have c9 := eqF g4
   refine st ?_
   simp [g4]
  refine zAF <| zAX <| zAL ?_
  obtain rfl := oi h
  simp
 refine cutA 88 0 [(1, .mptr 0 0), (3, .int .i64 p1.L.length), (8, .int .i64 p1.Op), (23, .bool (eqI p1.Op 2))] [(zGr.d p1)] <| spc h rfl (fun g11 h => ?_) fun g11 h => ?_
 ·obtain ⟨b21, q22, h⟩ := bs h
  refine cut 88 0 [(2, .bool b21)] [(zGr.d p1)] ?_ ?_
  ·rcases sp q22 with ⟨g13, q22⟩ | ⟨g13, q22⟩
   ·have c14 := eqT g13
    rcases sp q22 with ⟨g15, q22⟩ | ⟨g15, q22⟩
    ·have c16 := eqT g15
     obtain ⟨v17, q18, q22⟩ := bs q22
     obtain rfl := oi q22
     refine st ?_
     simp [g13, g15]
     have r23 := zFY fuel p1.S v17 q18
     try simp [g13, g15] at r23
     refine zAA r23 (by simp) rfl ?_
     simp [g13, g15]
    have c19 := eqF g15
    obtain rfl := oi q22
    refine st ?_
    simp [g13, g15]
   have c20 := eqF g13
   obtain rfl := oi q22
   refine st ?_
   simp [g13]
  refine zAF <| zAX <| zAL ?_
  obtain rfl := oi h
  simp
 refine cutA 88 0 [(1, .mptr 0 0), (3, .int .i64 p1.L.length), (8, .int .i64 p1.Op), (37, .bool (eqI p1.Op 3))] [(zGr.d p1)] <| spc h rfl (fun g25 h => ?_) fun g25 h => ?_
 ·refine cut 88 0 [(2, .bool ((eqI (p1.L.length : Int) 0) && ((eqS p1.S ([] : List UInt8)) && ((leI (-4503599627370496) p1.N) && (leI p1.N 4503599627370496)))))] [(zGr.d p1)] ?_ ?_
  ·rcases tf (eqI (p1.L.length : Int) 0) with g27 | g27
   ·have c28 := eqT g27
    rcases tf (eqS p1.S ([] : List UInt8)) with g29 | g29
    ·rcases tf (leI (-4503599627370496) p1.N) with g30 | g30
     ·have c31 := leT g30
      refine st ?_
      simp [g27, g29, g30]
     have c32 := leF g30
     refine st ?_
     simp [g27, g29, g30]
    refine st ?_
    simp [g27, g29]
   have c33 := eqF g27
   refine st ?_
   simp [g27]
  refine zAF <| zAX <| zAL ?_
  obtain rfl := oi h
  simp
 refine cutA 88 0 [(1, .mptr 0 0), (3, .int .i64 p1.L.length), (8, .int .i64 p1.Op), (56, .bool (eqI p1.Op 4))] [(zGr.d p1)] <| spc h rfl (fun g35 h => ?_) fun g35 h => ?_
 ·obtain ⟨b47, q48, h⟩ := bs h
  refine cut 88 0 [(2, .bool b47)] [(zGr.d p1)] ?_ ?_
  ·rcases sp q48 with ⟨g37, q48⟩ | ⟨g37, q48⟩
   ·have c38 := leT g37
    refine zDD 0 3 rfl rfl rfl fun f39 => ?_
    rw [List.length_map] at f39
    rcases sp q48 with ⟨g40, q48⟩ | ⟨g40, q48⟩
    ·have c41 := eqT g40
     obtain ⟨v42, q43, q48⟩ := bs q48
     obtain rfl := oi q48
     refine st ?_
     simp [g37, g40]
     have r49 := zFX fuel p1.S v42 q43
     try simp [g37, g40] at r49
     refine zAA r49 (by simp) rfl ?_
     simp [g37, g40]
    have c44 := eqF g40
    obtain rfl := oi q48
    refine st ?_
    simp [g37, g40]
   have c45 := leF g37
   refine zDD 0 3 rfl rfl rfl fun f46 => ?_
   rw [List.length_map] at f46
   obtain rfl := oi q48
   refine st ?_
   simp [g37]
  refine zAF <| zAX <| zAL ?_
  obtain rfl := oi h
  simp
 refine cutA 88 0 [(1, .mptr 0 0), (3, .int .i64 p1.L.length), (70, .bool (eqI p1.Op 5))] [(zGr.d p1)] <| spc h rfl (fun g51 h => ?_) fun g51 h => ?_
 ·refine cut 88 0 [(2, .bool ((!(eqI (p1.L.length : Int) 1)) && ((leI (p1.L.length : Int) 9) && ((eqI p1.N 0) && (eqS p1.S ([] : List UInt8))))))] [(zGr.d p1)] ?_ ?_
  ·rcases tf (!(eqI (p1.L.length : Int) 1)) with g53 | g53
   ·have g54 := notT g53
    have c55 := eqF g54
    rcases tf (leI (p1.L.length : Int) 9) with g56 | g56
    ·have c57 := leT g56
     refine zDD 0 3 rfl rfl rfl fun f58 => ?_
     rw [List.length_map] at f58
     rcases tf (eqI p1.N 0) with g59 | g59
     ·have c60 := eqT g59
      refine st ?_
      simp [g53, g56, g59]
     have c61 := eqF g59
     refine st ?_
     simp [g53, g56, g59]
    have c62 := leF g56
    refine zDD 0 3 rfl rfl rfl fun f63 => ?_
    rw [List.length_map] at f63
    refine st ?_
    simp [g53, g56]
   have g64 := notF g53
   have c65 := eqT g64
   refine st ?_
   simp [g53]
  refine zAF <| zAX <| zAL ?_
  obtain rfl := oi h
  simp
 refine zAK <| zEs <| zAe <| cutA 88 0 [(2, .bool false)] [(zGr.d p1)] <| zAF ?_
 obtain rfl := oi h
 simp
theorem zEZ (fuel : Nat) : (∀ (p1 : zGr) (left2 : Int) (depth3 : Int) (r : Int × Bool) (_ : zAZ fuel p1 left2 depth3 = some r), Pure Tryz.prog 80 [.agg [.int .i64 p1.Op, .int .i64 p1.N, .str p1.S, .sl (p1.L.map zGr.c)], .int .i64 left2, .int .i64 depth3] (.tup [.int .i64 r.1, .bool r.2])) := by
 induction fuel with
 | zero => intro p1 left2 depth3 r h; rw [zAZ] at h; cases h
 | succ fuel zEb =>
  intro p1 left2 depth3 r h
  rw [zAZ] at h
  refine zAE Tryz.func80 (by rfl) (by rfl) (by simp) (by simp) (by simp) <| cutA 48 0 [(1, .int .i64 left2), (2, .int .i64 depth3), (3, .mptr 0 0)] [(zGr.d p1)] <| zAH ?_
  obtain ⟨b12, q13, h⟩ := bs h
  refine cut 48 0 [(1, .int .i64 left2), (2, .int .i64 depth3), (3, .mptr 0 0), (23, .bool b12)] [(zGr.d p1)] ?_ ?_
  ·rcases sp q13 with ⟨g4, q13⟩ | ⟨g4, q13⟩
   ·have c5 := leT g4
    obtain rfl := oi q13
    refine st ?_
    simp [g4]
   have c6 := leF g4
   rcases sp q13 with ⟨g7, q13⟩ | ⟨g7, q13⟩
   ·have c8 := ltT g7
    obtain rfl := oi q13
    refine st ?_
    simp [g4, g7]
   have c9 := ltF g7
   obtain ⟨v10, q11, q13⟩ := bs q13
   obtain rfl := oi q13
   refine st ?_
   simp [g4, g7]
   have r52 := zFn fuel p1 v10 q11
   try simp [g4, g7] at r52
   refine zAA r52 (by simp) rfl ?_
   simp [g4, g7]
  refine spc h rfl (fun g14 h => ?_) fun g14 h => ?_
  ·refine cutA 48 0 [(6, .int .i64 0), (7, .bool false)] [(zGr.d p1)] <| zAF <| zAL ?_
   obtain rfl := oi h
   simp
  refine zAK <| zAe <| cutA 48 0 [(1, .int .i64 left2), (2, .int .i64 depth3), (3, .mptr 0 0), (8, .int .i64 1)] [(zGr.d p1)] <| zAH <| cutA 48 0 [(1, .int .i64 left2), (2, .int .i64 depth3), (8, .int .i64 1), (25, .sl (p1.L.map zGr.c)), (26, .int .i64 p1.L.length), (27, .int .i64 0)] [(zGr.d p1)] <| zAN ?_
  obtain ⟨o18, l19, h⟩ := bs h
  refine zBw (fun p : Nat × Int × Nat => mkS 48 0 [(1, .int .i64 left2), (2, .int .i64 depth3), (8, .int .i64 p.2.1), (25, .sl (p1.L.map zGr.c)), (26, .int .i64 p1.L.length), (27, .int .i64 p.2.2)] [(zGr.d p1)]) (fun p => zAY (zAZ fuel) p1 left2 depth3 p.1 p.2.1 p.2.2 = some o18) (fun p => p.1) (fuel, 1, 0) l19 (zBS (by simp)) ?_
  rintro ⟨k20, n15, i16⟩ l19
  try dsimp only at l19 ⊢
  cases k20 with
  | zero =>
   rw [zAY] at l19; cases l19
  | succ k21 =>
   rw [zAY] at l19
   refine cutA 48 0 [(1, .int .i64 left2), (2, .int .i64 depth3), (8, .int .i64 n15), (25, .sl (p1.L.map zGr.c)), (26, .int .i64 p1.L.length), (27, .int .i64 i16), (28, .bool (ltI ((i16 : Nat) : Int) (p1.L.length : Int)))] [(zGr.d p1)] <| zAH <| spc l19 rfl (fun g22 l19 => ?_) fun g22 l19 => ?_
   ·have c23 := ltT g22
    refine zE3 25 rfl fun f24 => ?_
    rw [List.length_map] at f24
    refine zAK <| zAe <| zAH <| zAN ?_
    obtain ⟨x25, q26, l19⟩ := bs l19
    refine cut 48 0 [(1, .int .i64 left2), (2, .int .i64 depth3), (8, .int .i64 n15), (10, .mptr 1 0), (25, .sl (p1.L.map zGr.c)), (26, .int .i64 p1.L.length), (27, .int .i64 i16)] [(zGr.d p1), (zGr.d x25)] (st (by simp [q26])) ?_
    obtain ⟨n27, q28, l19⟩ := bs l19
    obtain ⟨q29, q30⟩ := zEr q28
    try simp at q29
    try simp at q30
    have c31 := q29; simp only [Rng, inR] at c31
    obtain ⟨n32, q33, l19⟩ := bs l19
    obtain ⟨q34, q35⟩ := zEr q33
    try simp at q34
    try simp at q35
    have c36 := q34; simp only [Rng, inR] at c36
    obtain ⟨v37, q38, l19⟩ := bs l19
    refine cut 48 0 [(1, .int .i64 left2), (2, .int .i64 depth3), (8, .int .i64 n15), (11, .int .i64 v37.1), (12, .bool v37.2), (25, .sl (p1.L.map zGr.c)), (26, .int .i64 p1.L.length), (27, .int .i64 i16)] [(zGr.d p1), (zGr.d x25)] ?_ ?_
    ·refine st ?_
     simp [q29, q30, q34, q35]
     have r48 := zEb x25 n27 n32 v37 q38
     try simp [q29, q30, q34, q35] at r48
     refine zAA r48 (by simp) rfl ?_
     simp [q29, q30, q34, q35]
    refine zAH <| cutA 48 0 [(1, .int .i64 left2), (2, .int .i64 depth3), (8, .int .i64 n15), (11, .int .i64 v37.1), (25, .sl (p1.L.map zGr.c)), (26, .int .i64 p1.L.length), (27, .int .i64 i16), (42, .bool (!v37.2))] [(zGr.d p1), (zGr.d x25)] <| spc l19 rfl (fun g39 l19 => ?_) fun g39 l19 => ?_
    ·have g40 := notT g39
     refine cutA 48 0 [(6, .int .i64 0), (7, .bool false)] [(zGr.d p1), (zGr.d x25)] <| zAF <| zAL <| zAX <| zAL ?_
     replace h := retL l19 h
     refine zAL <| zAX <| zAL ?_
     obtain rfl := oi h
     simp
    have g41 := notF g39
    refine zAK <| zAe ?_
    obtain ⟨n42, q43, l19⟩ := bs l19
    obtain ⟨q44, q45⟩ := zEr q43
    try simp at q44
    try simp at q45
    have c46 := q44; simp only [Rng, inR] at c46
    refine last 48 0 [(1, .int .i64 left2), (2, .int .i64 depth3), (8, .int .i64 n42), (25, .sl (p1.L.map zGr.c)), (26, .int .i64 p1.L.length), (27, .int .i64 i16)] [(zGr.d p1), (zGr.d x25)] (st (by simp [q44, q45])) fun zz hs => ?_
    refine zEs <| zBi ?_ hs
    have q47 : Rng .i64 (((i16 : Nat) : Int) + 1) := by simp only [Rng, inR]; omega
    try simp at q47
    refine last 48 0 [(1, .int .i64 left2), (2, .int .i64 depth3), (8, .int .i64 n42), (25, .sl (p1.L.map zGr.c)), (26, .int .i64 p1.L.length), (27, .int .i64 ((i16 + 1 : Nat) : Int))] [(zGr.d p1)] (st (by simp [q47])) fun zz hs => ?_
    exact ⟨(k21, n42, i16 + 1), hs, l19, by simp⟩
   have c49 := ltF g22
   refine zE3 25 rfl fun f50 => ?_
   rw [List.length_map] at f50
   refine zBD <| zAV ?_
   rcases o18 with o18 | o17
   ·cases l19
   have q51 := Sum.inr.inj (Option.some.inj l19)
   replace h := elimR h
   have q51 := q51.symm
   refine zAV <| zBK <| zBi (t := mkS 48 0 [(8, .int .i64 o17)] [(zGr.d p1)]) ?_ (zBS (by simp [q51]))
   refine cutA 48 0 [(6, .int .i64 o17), (7, .bool true)] [(zGr.d p1)] <| zAF ?_
   obtain rfl := oi h
   simp
theorem zEa (name1 : (List UInt8)) (c2 : Bool) (c3 : (List (List UInt8 × Bool))) (r : Bool × (List (List UInt8 × Bool))) (h : zBg name1 c2 c3 = some r) : Raw Tryz.prog 81 [.str name1, .mptr 0 0, .mptr 1 0] [[.bool c2], [.omp (mks c3) (mvs AV.bool c3)]] (.tup []) [[.bool r.1], [.omp (mks r.2) (mvs AV.bool r.2)]] := by
 rw [zBg] at h
 refine zCX Tryz.func81 (by rfl) (by rfl) (by simp) (by simp) <| cut 13 2 [(0, .str name1), (2, .mptr 1 0)] [[.bool (c2 && (!(mgetD c3 name1 false)))], [.omp (mks c3) (mvs AV.bool c3)]] ?_ ?_
 ·rcases tf (c2) with g4 | g4
  ·refine st ?_
   simp [g4]
  refine st ?_
  simp [g4]
 obtain rfl := oi h
 refine st ?_
 simp
theorem zCY (fuel : Nat) : (∀ (p1 : zGr) (c2 : Bool) (c3 : (List (List UInt8 × Bool))) (r : Bool × (List (List UInt8 × Bool))) (_ : zAC fuel p1 c2 c3 = some r), Raw Tryz.prog 77 [.agg [.int .i64 p1.Op, .int .i64 p1.N, .str p1.S, .sl (p1.L.map zGr.c)], .fn (.func 81) [] [.mptr 0 0, .mptr 1 0]] [[.bool c2], [.omp (mks c3) (mvs AV.bool c3)]] (.tup []) [[.bool r.1], [.omp (mks r.2) (mvs AV.bool r.2)]]) := by
 induction fuel with
 | zero => intro p1 c2 c3 r h; rw [zAC] at h; cases h
 | succ fuel zBT =>
  intro p1 c2 c3 r h
  rw [zAC] at h
  refine zCX Tryz.func77 (by rfl) (by rfl) (by simp) (by simp) <| cutA 24 2 [(1, .fn (.func 81) [] [.mptr 0 0, .mptr 1 0]), (2, .mptr 2 0)] [[.bool c2], [.omp (mks c3) (mvs AV.bool c3)], (zGr.d p1)] <| zAH <| cutA 24 2 [(1, .fn (.func 81) [] [.mptr 0 0, .mptr 1 0]), (2, .mptr 2 0), (8, .bool (eqI p1.Op 2))] [[.bool c2], [.omp (mks c3) (mvs AV.bool c3)], (zGr.d p1)] <| spc h rfl (fun g4 h => ?_) fun g4 h => ?_
  ·obtain ⟨v6, q7, h⟩ := bs h
   refine last 24 2 [(1, .fn (.func 81) [] [.mptr 0 0, .mptr 1 0]), (2, .mptr 2 0)] [[.bool v6.1], [.omp (mks v6.2) (mvs AV.bool v6.2)], (zGr.d p1)] ?_ fun zz hs => ?_
   ·refine st ?_
    simp
    have r29 := (zEa p1.S c2 c3 v6 q7).frame [0, 1] [[.bool c2], [.omp (mks c3) (mvs AV.bool c3)], [.int .i64 p1.Op, .int .i64 p1.N, .str p1.S, .sl (p1.L.map zGr.c)]] (by simp)
    try simp at r29
    refine zES r29 (by simp) rfl ?_
    simp
   refine zBi ?_ hs
   refine cutA 24 2 [(1, .fn (.func 81) [] [.mptr 0 0, .mptr 1 0]), (14, .sl (p1.L.map zGr.c)), (15, .int .i64 p1.L.length), (16, .int .i64 0)] [[.bool v6.1], [.omp (mks v6.2) (mvs AV.bool v6.2)], (zGr.d p1)] <| zAN ?_
   obtain ⟨o11, l12, h⟩ := bs h
   refine zBw (fun p : Nat × Bool × (List (List UInt8 × Bool)) × Nat => mkS 24 2 [(1, .fn (.func 81) [] [.mptr 0 0, .mptr 1 0]), (14, .sl (p1.L.map zGr.c)), (15, .int .i64 p1.L.length), (16, .int .i64 p.2.2.2)] [[.bool p.2.1], [.omp (mks p.2.2.1) (mvs AV.bool p.2.2.1)], (zGr.d p1)]) (fun p => zAI (zAC fuel) p1 p.1 p.2.1 p.2.2.1 p.2.2.2 = some o11) (fun p => p.1) (fuel, v6.1, v6.2, 0) l12 (zBS (by simp)) ?_
   rintro ⟨k13, a8, a9, i10⟩ l12
   try dsimp only at l12 ⊢
   cases k13 with
   | zero =>
    rw [zAI] at l12; cases l12
   | succ k14 =>
    rw [zAI] at l12
    refine cutA 24 2 [(1, .fn (.func 81) [] [.mptr 0 0, .mptr 1 0]), (14, .sl (p1.L.map zGr.c)), (15, .int .i64 p1.L.length), (16, .int .i64 i10), (17, .bool (ltI ((i10 : Nat) : Int) (p1.L.length : Int)))] [[.bool a8], [.omp (mks a9) (mvs AV.bool a9)], (zGr.d p1)] <| zAH <| spc l12 rfl (fun g15 l12 => ?_) fun g15 l12 => ?_
    ·have c16 := ltT g15
     refine zE3 14 rfl fun f17 => ?_
     rw [List.length_map] at f17
     refine zAK <| zAe <| zAH <| zAN ?_
     obtain ⟨x18, q19, l12⟩ := bs l12
     refine cut 24 2 [(1, .fn (.func 81) [] [.mptr 0 0, .mptr 1 0]), (5, .mptr 3 0), (14, .sl (p1.L.map zGr.c)), (15, .int .i64 p1.L.length), (16, .int .i64 i10)] [[.bool a8], [.omp (mks a9) (mvs AV.bool a9)], (zGr.d p1), (zGr.d x18)] (st (by simp [q19])) ?_
     obtain ⟨v20, q21, l12⟩ := bs l12
     refine last 24 2 [(1, .fn (.func 81) [] [.mptr 0 0, .mptr 1 0]), (14, .sl (p1.L.map zGr.c)), (15, .int .i64 p1.L.length), (16, .int .i64 i10)] [[.bool v20.1], [.omp (mks v20.2) (mvs AV.bool v20.2)], (zGr.d p1), (zGr.d x18)] ?_ fun zz hs => ?_
     ·refine st ?_
      simp
      have r23 := (zBT x18 a8 a9 v20 q21).frame [0, 1] [[.bool a8], [.omp (mks a9) (mvs AV.bool a9)], [.int .i64 p1.Op, .int .i64 p1.N, .str p1.S, .sl (p1.L.map zGr.c)], [.int .i64 x18.Op, .int .i64 x18.N, .str x18.S, .sl (x18.L.map zGr.c)]] (by simp)
      try simp at r23
      refine zES r23 (by simp) rfl ?_
      simp
     refine zEs <| zBi ?_ hs
     have q22 : Rng .i64 (((i10 : Nat) : Int) + 1) := by simp only [Rng, inR]; omega
     try simp at q22
     refine last 24 2 [(1, .fn (.func 81) [] [.mptr 0 0, .mptr 1 0]), (14, .sl (p1.L.map zGr.c)), (15, .int .i64 p1.L.length), (16, .int .i64 ((i10 + 1 : Nat) : Int))] [[.bool v20.1], [.omp (mks v20.2) (mvs AV.bool v20.2)], (zGr.d p1)] (st (by simp [q22])) fun zz hs => ?_
     exact ⟨(k14, v20.1, v20.2, i10 + 1), hs, l12, by simp⟩
    have c24 := ltF g15
    refine zE3 14 rfl fun f25 => ?_
    rw [List.length_map] at f25
    refine zBD <| zAV ?_
    have q26 := Option.some.inj l12
    have q27 : o11.1 = a8 := by rw [← q26]
    have q28 : o11.2 = a9 := by rw [← q26]
    refine zAV <| zBK ?_
    obtain rfl := oi h
    simp [q27, q28]
  refine zAK <| zAe <| cutA 24 2 [(1, .fn (.func 81) [] [.mptr 0 0, .mptr 1 0]), (14, .sl (p1.L.map zGr.c)), (15, .int .i64 p1.L.length), (16, .int .i64 0)] [[.bool c2], [.omp (mks c3) (mvs AV.bool c3)], (zGr.d p1)] <| zAN ?_
  obtain ⟨o34, l35, h⟩ := bs h
  refine zBw (fun p : Nat × Bool × (List (List UInt8 × Bool)) × Nat => mkS 24 2 [(1, .fn (.func 81) [] [.mptr 0 0, .mptr 1 0]), (14, .sl (p1.L.map zGr.c)), (15, .int .i64 p1.L.length), (16, .int .i64 p.2.2.2)] [[.bool p.2.1], [.omp (mks p.2.2.1) (mvs AV.bool p.2.2.1)], (zGr.d p1)]) (fun p => zAM (zAC fuel) p1 p.1 p.2.1 p.2.2.1 p.2.2.2 = some o34) (fun p => p.1) (fuel, c2, c3, 0) l35 (zBS (by simp)) ?_
  rintro ⟨k36, a31, a32, i33⟩ l35
  try dsimp only at l35 ⊢
  cases k36 with
  | zero =>
   rw [zAM] at l35; cases l35
  | succ k37 =>
   rw [zAM] at l35
   refine cutA 24 2 [(1, .fn (.func 81) [] [.mptr 0 0, .mptr 1 0]), (14, .sl (p1.L.map zGr.c)), (15, .int .i64 p1.L.length), (16, .int .i64 i33), (17, .bool (ltI ((i33 : Nat) : Int) (p1.L.length : Int)))] [[.bool a31], [.omp (mks a32) (mvs AV.bool a32)], (zGr.d p1)] <| zAH <| spc l35 rfl (fun g38 l35 => ?_) fun g38 l35 => ?_
   ·have c39 := ltT g38
    refine zE3 14 rfl fun f40 => ?_
    rw [List.length_map] at f40
    refine zAK <| zAe <| zAH <| zAN ?_
    obtain ⟨x41, q42, l35⟩ := bs l35
    refine cut 24 2 [(1, .fn (.func 81) [] [.mptr 0 0, .mptr 1 0]), (5, .mptr 3 0), (14, .sl (p1.L.map zGr.c)), (15, .int .i64 p1.L.length), (16, .int .i64 i33)] [[.bool a31], [.omp (mks a32) (mvs AV.bool a32)], (zGr.d p1), (zGr.d x41)] (st (by simp [q42])) ?_
    obtain ⟨v43, q44, l35⟩ := bs l35
    refine last 24 2 [(1, .fn (.func 81) [] [.mptr 0 0, .mptr 1 0]), (14, .sl (p1.L.map zGr.c)), (15, .int .i64 p1.L.length), (16, .int .i64 i33)] [[.bool v43.1], [.omp (mks v43.2) (mvs AV.bool v43.2)], (zGr.d p1), (zGr.d x41)] ?_ fun zz hs => ?_
    ·refine st ?_
     simp
     have r46 := (zBT x41 a31 a32 v43 q44).frame [0, 1] [[.bool a31], [.omp (mks a32) (mvs AV.bool a32)], [.int .i64 p1.Op, .int .i64 p1.N, .str p1.S, .sl (p1.L.map zGr.c)], [.int .i64 x41.Op, .int .i64 x41.N, .str x41.S, .sl (x41.L.map zGr.c)]] (by simp)
     try simp at r46
     refine zES r46 (by simp) rfl ?_
     simp
    refine zEs <| zBi ?_ hs
    have q45 : Rng .i64 (((i33 : Nat) : Int) + 1) := by simp only [Rng, inR]; omega
    try simp at q45
    refine last 24 2 [(1, .fn (.func 81) [] [.mptr 0 0, .mptr 1 0]), (14, .sl (p1.L.map zGr.c)), (15, .int .i64 p1.L.length), (16, .int .i64 ((i33 + 1 : Nat) : Int))] [[.bool v43.1], [.omp (mks v43.2) (mvs AV.bool v43.2)], (zGr.d p1)] (st (by simp [q45])) fun zz hs => ?_
    exact ⟨(k37, v43.1, v43.2, i33 + 1), hs, l35, by simp⟩
   have c47 := ltF g38
   refine zE3 14 rfl fun f48 => ?_
   rw [List.length_map] at f48
   refine zBD <| zAV ?_
   have q49 := Option.some.inj l35
   have q50 : o34.1 = a31 := by rw [← q49]
   have q51 : o34.2 = a32 := by rw [← q49]
   refine zAV <| zBK ?_
   obtain rfl := oi h
   simp [q50, q51]
theorem zAR (fuel : Nat) (p1 : zGr) (r : Bool) (h : zAs fuel p1 = some r) : Pure Tryz.prog 33 [.agg [.int .i64 p1.Op, .int .i64 p1.N, .str p1.S, .sl (p1.L.map zGr.c)]] (.bool r) := by
 rw [zAs] at h
 refine zAE Tryz.func33 (by rfl) (by rfl) (by simp) (by simp) (by simp) <| cutA 19 0 [(1, .mptr 0 0)] [(zGr.d p1)] <| zAH ?_
 obtain ⟨v2, q3, h⟩ := bs h
 refine cut 19 0 [(1, .mptr 0 0), (4, .bool v2.2)] [(zGr.d p1)] ?_ ?_
 ·refine st ?_
  simp
  have r10 := zEZ fuel p1 20000 1 v2 q3
  try simp at r10
  refine zAA r10 (by simp) rfl ?_
  simp
 refine cutA 19 0 [(1, .mptr 0 0), (13, .bool (!v2.2))] [(zGr.d p1)] <| spc h rfl (fun g4 h => ?_) fun g4 h => ?_
 ·have g5 := notT g4
  refine cutA 19 0 [(2, .bool false)] [(zGr.d p1)] <| zAF <| zAL ?_
  obtain rfl := oi h
  simp
 have g6 := notF g4
 refine zAK <| zAe <| cutA 19 0 [(1, .mptr 0 0), (5, .mptr 1 0)] [(zGr.d p1), [.omp (mks ([] : List (List UInt8 × Bool))) (mvs AV.bool ([] : List (List UInt8 × Bool)))]] <| cutA 19 0 [(1, .mptr 0 0), (5, .mptr 1 0), (6, .mptr 2 0)] [(zGr.d p1), [.omp (mks ([] : List (List UInt8 × Bool))) (mvs AV.bool ([] : List (List UInt8 × Bool)))], [.bool true]] ?_
 obtain ⟨v7, q8, h⟩ := bs h
 refine cut 19 0 [(6, .mptr 2 0)] [(zGr.d p1), [.omp (mks v7.2) (mvs AV.bool v7.2)], [.bool v7.1]] ?_ ?_
 ·refine st ?_
  simp
  have r9 := (zCY fuel p1 true ([] : List (List UInt8 × Bool)) v7 q8).frame [2, 1] [[.int .i64 p1.Op, .int .i64 p1.N, .str p1.S, .sl (p1.L.map zGr.c)], [.omp (mks ([] : List (List UInt8 × Bool))) (mvs AV.bool ([] : List (List UInt8 × Bool)))], [.bool true]] (by simp)
  try simp at r9
  refine zES r9 (by simp) rfl ?_
  simp
 refine cutA 19 0 [(2, .bool v7.1)] [(zGr.d p1), [.omp (mks v7.2) (mvs AV.bool v7.2)], [.bool v7.1]] <| zAF ?_
 obtain rfl := oi h
 simp
theorem zEq (name1 : (List UInt8)) (c2 : (List (List UInt8))) (r : (List (List UInt8))) (h : zBz name1 c2 = some r) : Raw Tryz.prog 78 [.str name1, .mptr 0 0] [[.osl ⟨1, 9⟩ (c2.map cS)]] (.tup []) [[.osl ⟨1, 9⟩ (r.map cS)]] := by
 rw [zBz] at h
 refine zCX Tryz.func78 (by rfl) (by rfl) (by simp) (by simp) ?_
 obtain ⟨l3, q4, h⟩ := bs h
 obtain ⟨q5, q6⟩ := app_ok q4
 try simp at q5
 obtain rfl := oi h
 refine st ?_
 simp [q5, q6]
theorem zCh (fuel : Nat) : (∀ (p1 : zGr) (c2 : (List (List UInt8))) (r : (List (List UInt8))) (_ : zAD fuel p1 c2 = some r), Raw Tryz.prog 77 [.agg [.int .i64 p1.Op, .int .i64 p1.N, .str p1.S, .sl (p1.L.map zGr.c)], .fn (.func 78) [] [.mptr 0 0]] [[.osl ⟨1, 9⟩ (c2.map cS)]] (.tup []) [[.osl ⟨1, 9⟩ (r.map cS)]]) := by
 induction fuel with
 | zero => intro p1 c2 r h; rw [zAD] at h; cases h
 | succ fuel zBY =>
  intro p1 c2 r h
  rw [zAD] at h
  refine zCX Tryz.func77 (by rfl) (by rfl) (by simp) (by simp) <| cutA 24 1 [(1, .fn (.func 78) [] [.mptr 0 0]), (2, .mptr 1 0)] [[.osl ⟨1, 9⟩ (c2.map cS)], (zGr.d p1)] <| zAH <| cutA 24 1 [(1, .fn (.func 78) [] [.mptr 0 0]), (2, .mptr 1 0), (8, .bool (eqI p1.Op 2))] [[.osl ⟨1, 9⟩ (c2.map cS)], (zGr.d p1)] <| spc h rfl (fun g3 h => ?_) fun g3 h => ?_
  ·obtain ⟨v5, q6, h⟩ := bs h
   refine last 24 1 [(1, .fn (.func 78) [] [.mptr 0 0]), (2, .mptr 1 0)] [[.osl ⟨1, 9⟩ (v5.map cS)], (zGr.d p1)] ?_ fun zz hs => ?_
   ·refine st ?_
    simp
    have r25 := (zEq p1.S c2 v5 q6).frame [0] [[.osl ⟨1, 9⟩ (c2.map cS)], [.int .i64 p1.Op, .int .i64 p1.N, .str p1.S, .sl (p1.L.map zGr.c)]] (by simp)
    try simp at r25
    refine zES r25 (by simp) rfl ?_
    simp
   refine zBi ?_ hs
   refine cutA 24 1 [(1, .fn (.func 78) [] [.mptr 0 0]), (14, .sl (p1.L.map zGr.c)), (15, .int .i64 p1.L.length), (16, .int .i64 0)] [[.osl ⟨1, 9⟩ (v5.map cS)], (zGr.d p1)] <| zAN ?_
   obtain ⟨o9, l10, h⟩ := bs h
   refine zBw (fun p : Nat × (List (List UInt8)) × Nat => mkS 24 1 [(1, .fn (.func 78) [] [.mptr 0 0]), (14, .sl (p1.L.map zGr.c)), (15, .int .i64 p1.L.length), (16, .int .i64 p.2.2)] [[.osl ⟨1, 9⟩ (p.2.1.map cS)], (zGr.d p1)]) (fun p => zAP (zAD fuel) p1 p.1 p.2.1 p.2.2 = some o9) (fun p => p.1) (fuel, v5, 0) l10 (zBS (by simp)) ?_
   rintro ⟨k11, a7, i8⟩ l10
   try dsimp only at l10 ⊢
   cases k11 with
   | zero =>
    rw [zAP] at l10; cases l10
   | succ k12 =>
    rw [zAP] at l10
    refine cutA 24 1 [(1, .fn (.func 78) [] [.mptr 0 0]), (14, .sl (p1.L.map zGr.c)), (15, .int .i64 p1.L.length), (16, .int .i64 i8), (17, .bool (ltI ((i8 : Nat) : Int) (p1.L.length : Int)))] [[.osl ⟨1, 9⟩ (a7.map cS)], (zGr.d p1)] <| zAH <| spc l10 rfl (fun g13 l10 => ?_) fun g13 l10 => ?_
    ·have c14 := ltT g13
     refine zE3 14 rfl fun f15 => ?_
     rw [List.length_map] at f15
     refine zAK <| zAe <| zAH <| zAN ?_
     obtain ⟨x16, q17, l10⟩ := bs l10
     refine cut 24 1 [(1, .fn (.func 78) [] [.mptr 0 0]), (5, .mptr 2 0), (14, .sl (p1.L.map zGr.c)), (15, .int .i64 p1.L.length), (16, .int .i64 i8)] [[.osl ⟨1, 9⟩ (a7.map cS)], (zGr.d p1), (zGr.d x16)] (st (by simp [q17])) ?_
     obtain ⟨v18, q19, l10⟩ := bs l10
     refine last 24 1 [(1, .fn (.func 78) [] [.mptr 0 0]), (14, .sl (p1.L.map zGr.c)), (15, .int .i64 p1.L.length), (16, .int .i64 i8)] [[.osl ⟨1, 9⟩ (v18.map cS)], (zGr.d p1), (zGr.d x16)] ?_ fun zz hs => ?_
     ·refine st ?_
      simp
      have r21 := (zBY x16 a7 v18 q19).frame [0] [[.osl ⟨1, 9⟩ (a7.map cS)], [.int .i64 p1.Op, .int .i64 p1.N, .str p1.S, .sl (p1.L.map zGr.c)], [.int .i64 x16.Op, .int .i64 x16.N, .str x16.S, .sl (x16.L.map zGr.c)]] (by simp)
      try simp at r21
      refine zES r21 (by simp) rfl ?_
      simp
     refine zEs <| zBi ?_ hs
     have q20 : Rng .i64 (((i8 : Nat) : Int) + 1) := by simp only [Rng, inR]; omega
     try simp at q20
     refine last 24 1 [(1, .fn (.func 78) [] [.mptr 0 0]), (14, .sl (p1.L.map zGr.c)), (15, .int .i64 p1.L.length), (16, .int .i64 ((i8 + 1 : Nat) : Int))] [[.osl ⟨1, 9⟩ (v18.map cS)], (zGr.d p1)] (st (by simp [q20])) fun zz hs => ?_
     exact ⟨(k12, v18, i8 + 1), hs, l10, by simp⟩
    have c22 := ltF g13
    refine zE3 14 rfl fun f23 => ?_
    rw [List.length_map] at f23
    refine zBD <| zAV ?_
    have q24 := Option.some.inj l10
    have q24 := q24.symm
    refine zAV <| zBK ?_
    obtain rfl := oi h
    simp [q24]
  refine zAK <| zAe <| cutA 24 1 [(1, .fn (.func 78) [] [.mptr 0 0]), (14, .sl (p1.L.map zGr.c)), (15, .int .i64 p1.L.length), (16, .int .i64 0)] [[.osl ⟨1, 9⟩ (c2.map cS)], (zGr.d p1)] <| zAN ?_
  obtain ⟨o29, l30, h⟩ := bs h
  refine zBw (fun p : Nat × (List (List UInt8)) × Nat => mkS 24 1 [(1, .fn (.func 78) [] [.mptr 0 0]), (14, .sl (p1.L.map zGr.c)), (15, .int .i64 p1.L.length), (16, .int .i64 p.2.2)] [[.osl ⟨1, 9⟩ (p.2.1.map cS)], (zGr.d p1)]) (fun p => zAO (zAD fuel) p1 p.1 p.2.1 p.2.2 = some o29) (fun p => p.1) (fuel, c2, 0) l30 (zBS (by simp)) ?_
  rintro ⟨k31, a27, i28⟩ l30
  try dsimp only at l30 ⊢
  cases k31 with
  | zero =>
   rw [zAO] at l30; cases l30
  | succ k32 =>
   rw [zAO] at l30
   refine cutA 24 1 [(1, .fn (.func 78) [] [.mptr 0 0]), (14, .sl (p1.L.map zGr.c)), (15, .int .i64 p1.L.length), (16, .int .i64 i28), (17, .bool (ltI ((i28 : Nat) : Int) (p1.L.length : Int)))] [[.osl ⟨1, 9⟩ (a27.map cS)], (zGr.d p1)] <| zAH <| spc l30 rfl (fun g33 l30 => ?_) fun g33 l30 => ?_
   ·have c34 := ltT g33
    refine zE3 14 rfl fun f35 => ?_
    rw [List.length_map] at f35
    refine zAK <| zAe <| zAH <| zAN ?_
    obtain ⟨x36, q37, l30⟩ := bs l30
    refine cut 24 1 [(1, .fn (.func 78) [] [.mptr 0 0]), (5, .mptr 2 0), (14, .sl (p1.L.map zGr.c)), (15, .int .i64 p1.L.length), (16, .int .i64 i28)] [[.osl ⟨1, 9⟩ (a27.map cS)], (zGr.d p1), (zGr.d x36)] (st (by simp [q37])) ?_
    obtain ⟨v38, q39, l30⟩ := bs l30
    refine last 24 1 [(1, .fn (.func 78) [] [.mptr 0 0]), (14, .sl (p1.L.map zGr.c)), (15, .int .i64 p1.L.length), (16, .int .i64 i28)] [[.osl ⟨1, 9⟩ (v38.map cS)], (zGr.d p1), (zGr.d x36)] ?_ fun zz hs => ?_
    ·refine st ?_
     simp
     have r41 := (zBY x36 a27 v38 q39).frame [0] [[.osl ⟨1, 9⟩ (a27.map cS)], [.int .i64 p1.Op, .int .i64 p1.N, .str p1.S, .sl (p1.L.map zGr.c)], [.int .i64 x36.Op, .int .i64 x36.N, .str x36.S, .sl (x36.L.map zGr.c)]] (by simp)
     try simp at r41
     refine zES r41 (by simp) rfl ?_
     simp
    refine zEs <| zBi ?_ hs
    have q40 : Rng .i64 (((i28 : Nat) : Int) + 1) := by simp only [Rng, inR]; omega
    try simp at q40
    refine last 24 1 [(1, .fn (.func 78) [] [.mptr 0 0]), (14, .sl (p1.L.map zGr.c)), (15, .int .i64 p1.L.length), (16, .int .i64 ((i28 + 1 : Nat) : Int))] [[.osl ⟨1, 9⟩ (v38.map cS)], (zGr.d p1)] (st (by simp [q40])) fun zz hs => ?_
    exact ⟨(k32, v38, i28 + 1), hs, l30, by simp⟩
   have c42 := ltF g33
   refine zE3 14 rfl fun f43 => ?_
   rw [List.length_map] at f43
   refine zBD <| zAV ?_
   have q44 := Option.some.inj l30
   have q44 := q44.symm
   refine zAV <| zBK ?_
   obtain rfl := oi h
   simp [q44]
theorem zFo (fuel : Nat) (p1 : zGr) (r : (List (List UInt8)) × Int) (h : zB0 fuel p1 = some r) : Pure Tryz.prog 31 [.agg [.int .i64 p1.Op, .int .i64 p1.N, .str p1.S, .sl (p1.L.map zGr.c)]] (.tup [.sl (r.1.map cS), .int .i64 r.2]) := by
 rw [zB0] at h
 refine zAE Tryz.func31 (by rfl) (by rfl) (by simp) (by simp) (by simp) <| cutA 12 0 [(1, .mptr 0 0)] [(zGr.d p1)] <| zAH ?_
 obtain ⟨v2, q3, h⟩ := bs h
 refine cut 12 0 [(1, .mptr 0 0), (7, .bool (!v2))] [(zGr.d p1)] ?_ ?_
 ·refine st ?_
  simp
  have r10 := zAR fuel p1 v2 q3
  try simp at r10
  refine zAA r10 (by simp) rfl ?_
  simp
 refine spc h rfl (fun g4 h => ?_) fun g4 h => ?_
 ·have g5 := notT g4
  refine cutA 12 0 [(2, .osl ⟨1, 9⟩ (([] : List (List UInt8)).map cS)), (3, .int .i64 1)] [(zGr.d p1)] <| zAF <| zAL ?_
  obtain rfl := oi h
  simp
 have g6 := notF g4
 refine zAK <| zAe <| cutA 12 0 [(1, .mptr 0 0), (4, .mptr 1 0)] [(zGr.d p1), [.osl ⟨1, 9⟩ (([] : List (List UInt8)).map cS)]] ?_
 obtain ⟨v7, q8, h⟩ := bs h
 refine cut 12 0 [(4, .mptr 1 0)] [(zGr.d p1), [.osl ⟨1, 9⟩ (v7.map cS)]] ?_ ?_
 ·refine st ?_
  simp
  have r9 := (zCh fuel p1 ([] : List (List UInt8)) v7 q8).frame [1] [[.int .i64 p1.Op, .int .i64 p1.N, .str p1.S, .sl (p1.L.map zGr.c)], [.osl ⟨1, 9⟩ (([] : List (List UInt8)).map cS)]] (by simp)
  try simp at r9
  refine zES r9 (by simp) rfl ?_
  simp
 refine cutA 12 0 [(2, .osl ⟨1, 9⟩ (v7.map cS)), (3, .int .i64 0)] [(zGr.d p1), [.sl (v7.map cS)]] <| zAF ?_
 obtain rfl := oi h
 simp
theorem zFm (fuel : Nat) : (∀ (p1 : zGr) (r : (List UInt8)) (_ : zAd fuel p1 = some r), Pure Tryz.prog 79 [.agg [.int .i64 p1.Op, .int .i64 p1.N, .str p1.S, .sl (p1.L.map zGr.c)]] (.str r)) := by
 induction fuel with
 | zero => intro p1 r h; rw [zAd] at h; cases h
 | succ fuel zDz =>
  intro p1 r h
  rw [zAd] at h
  refine zAE Tryz.func79 (by rfl) (by rfl) (by simp) (by simp) (by simp) <| cutA 81 0 [(1, .mptr 0 0)] [(zGr.d p1)] <| zAH <| cutA 81 0 [(1, .mptr 0 0), (8, .int .i64 p1.Op)] [(zGr.d p1)] <| zAN <| cutA 81 0 [(1, .mptr 0 0), (8, .int .i64 p1.Op), (9, .bool (eqI p1.Op 1))] [(zGr.d p1)] <| spc h rfl (fun g2 h => ?_) fun g2 h => ?_
  ·refine cutA 81 0 [(2, .str [95])] [(zGr.d p1)] <| zAF <| zAX <| zAL ?_
   obtain rfl := oi h
   simp
  refine cutA 81 0 [(1, .mptr 0 0), (8, .int .i64 p1.Op), (11, .bool (eqI p1.Op 2))] [(zGr.d p1)] <| spc h rfl (fun g5 h => ?_) fun g5 h => ?_
  ·refine cutA 81 0 [(2, .str p1.S)] [(zGr.d p1)] <| zAF <| zAX <| zAL ?_
   obtain rfl := oi h
   simp
  refine cutA 81 0 [(1, .mptr 0 0), (8, .int .i64 p1.Op), (15, .bool (eqI p1.Op 3))] [(zGr.d p1)] <| spc h rfl (fun g8 h => ?_) fun g8 h => ?_
  ·refine zAH <| cutA 81 0 [(1, .mptr 0 0), (19, .bool (ltI p1.N 0))] [(zGr.d p1)] <| spc h rfl (fun g10 h => ?_) fun g10 h => ?_
   ·have c11 := ltT g10
    obtain ⟨n12, q13, h⟩ := bs h
    obtain ⟨q14, q15⟩ := zEr q13
    try simp at q14
    try simp at q15
    obtain ⟨v16, q17, h⟩ := bs h
    obtain ⟨s18, q19, h⟩ := bs h
    obtain ⟨q20, q21⟩ := zCi q19
    try simp at q20
    try simp at q21
    refine cut 81 0 [(2, .str s18)] [(zGr.d p1)] ?_ ?_
    ·refine st ?_
     simp [q14, q15, q20, q21]
     have r22 := zCr n12 v16 q17
     try simp [q14, q15, q20, q21] at r22
     refine zAA r22 (by simp) rfl ?_
     simp [q14, q15, q20, q21]
    refine zAF <| zAL <| zAX <| zAL ?_
    obtain rfl := oi h
    simp
   have c23 := ltF g10
   refine zAK <| zAe ?_
   obtain ⟨v24, q25, h⟩ := bs h
   refine cut 81 0 [(2, .str v24)] [(zGr.d p1)] ?_ ?_
   ·refine st ?_
    simp
    have r26 := zCr p1.N v24 q25
    try simp at r26
    refine zAA r26 (by simp) rfl ?_
    simp
   refine zAF <| zAX <| zAL ?_
   obtain rfl := oi h
   simp
  refine cutA 81 0 [(1, .mptr 0 0), (28, .bool (eqI p1.Op 4))] [(zGr.d p1)] <| spc h rfl (fun g28 h => ?_) fun g28 h => ?_
  ·refine zAH <| cutA 81 0 [(1, .mptr 0 0), (33, .bool (eqI (p1.L.length : Int) 0))] [(zGr.d p1)] <| spc h rfl (fun g30 h => ?_) fun g30 h => ?_
   ·have c31 := eqT g30
    refine cutA 81 0 [(2, .str p1.S)] [(zGr.d p1)] <| zAF <| zAL <| zAX <| zAL ?_
    obtain rfl := oi h
    simp
   have c32 := eqF g30
   refine zAK <| zAe ?_
   obtain ⟨x33, q34, h⟩ := bs h
   obtain ⟨v35, q36, h⟩ := bs h
   refine cut 81 0 [(1, .mptr 0 0), (3, .str v35)] [(zGr.d p1)] ?_ ?_
   ·refine st ?_
    simp [q34]
    have r70 := zDz x33 v35 q36
    try simp [q34] at r70
    refine zAA r70 (by simp) rfl ?_
    simp [q34]
   refine zAH <| cut 81 0 [(1, .mptr 0 0), (3, .str v35), (55, .bool ((eqI x33.Op 4) && (ltI 0 (x33.L.length : Int))))] [(zGr.d p1)] ?_ ?_
   ·rcases tf (eqI x33.Op 4) with g37 | g37
    ·have c38 := eqT g37
     refine st ?_
     simp [q34, g37]
    have c39 := eqF g37
    refine st ?_
    simp [q34, g37]
   rcases sp h with ⟨g40, h⟩ | ⟨g40, h⟩
   ·obtain ⟨g41, g42⟩ := andT g40
    have c43 := eqT g41
    have c44 := ltT g42
    refine condT rfl g40 ?_
    obtain ⟨s46, q47, h⟩ := bs h
    obtain ⟨q48, q49⟩ := zCi q47
    try simp at q48
    try simp at q49
    obtain ⟨s50, q51, h⟩ := bs h
    obtain ⟨q52, q53⟩ := zCi q51
    try simp at q52
    try simp at q53
    refine last 81 0 [(1, .mptr 0 0), (3, .str s50)] [(zGr.d p1)] (st (by simp [q48, q49, q52, q53])) fun zz hs => ?_
    refine zBi ?_ hs
    obtain ⟨s54, q55, h⟩ := bs h
    obtain ⟨q56, q57⟩ := zCi q55
    try simp at q56
    try simp at q57
    obtain ⟨s58, q59, h⟩ := bs h
    obtain ⟨q60, q61⟩ := zCi q59
    try simp at q60
    try simp at q61
    refine cut 81 0 [(2, .str s58)] [(zGr.d p1)] (st (by simp [q56, q57, q60, q61])) <| zAF <| zAX <| zAL ?_
    obtain rfl := oi h
    simp
   refine condF rfl g40 <| zAK <| zAe ?_
   obtain ⟨s62, q63, h⟩ := bs h
   obtain ⟨q64, q65⟩ := zCi q63
   try simp at q64
   try simp at q65
   obtain ⟨s66, q67, h⟩ := bs h
   obtain ⟨q68, q69⟩ := zCi q67
   try simp at q68
   try simp at q69
   refine cut 81 0 [(2, .str s66)] [(zGr.d p1)] (st (by simp [q64, q65, q68, q69])) <| zAF <| zAX <| zAL ?_
   obtain rfl := oi h
   simp
  refine zAK <| zEs <| zAe <| cutA 81 0 [(1, .mptr 0 0), (4, .osl ⟨1, 9⟩ (([] : List (List UInt8)).map cS))] [(zGr.d p1)] <| zAH <| cutA 81 0 [(4, .osl ⟨1, 9⟩ (([] : List (List UInt8)).map cS)), (65, .sl (p1.L.map zGr.c)), (66, .int .i64 p1.L.length), (67, .int .i64 0)] [(zGr.d p1)] <| zAN ?_
  obtain ⟨o74, l75, h⟩ := bs h
  refine zBw (fun p : Nat × (List (List UInt8)) × Nat => mkS 81 0 [(4, .osl ⟨1, 9⟩ (p.2.1.map cS)), (65, .sl (p1.L.map zGr.c)), (66, .int .i64 p1.L.length), (67, .int .i64 p.2.2)] [(zGr.d p1)]) (fun p => zAm (zAd fuel) p1 p.1 p.2.1 p.2.2 = some o74) (fun p => p.1) (fuel, ([] : List (List UInt8)), 0) l75 (zBS (by simp)) ?_
  rintro ⟨k76, l72, i73⟩ l75
  try dsimp only at l75 ⊢
  cases k76 with
  | zero =>
   rw [zAm] at l75; cases l75
  | succ k77 =>
   rw [zAm] at l75
   refine cutA 81 0 [(4, .osl ⟨1, 9⟩ (l72.map cS)), (65, .sl (p1.L.map zGr.c)), (66, .int .i64 p1.L.length), (67, .int .i64 i73), (68, .bool (ltI ((i73 : Nat) : Int) (p1.L.length : Int)))] [(zGr.d p1)] <| zAH <| spc l75 rfl (fun g78 l75 => ?_) fun g78 l75 => ?_
   ·have c79 := ltT g78
    refine zE3 65 rfl fun f80 => ?_
    rw [List.length_map] at f80
    refine zAK <| zAe <| zAH <| zAN ?_
    obtain ⟨x81, q82, l75⟩ := bs l75
    refine cut 81 0 [(4, .osl ⟨1, 9⟩ (l72.map cS)), (6, .mptr 1 0), (65, .sl (p1.L.map zGr.c)), (66, .int .i64 p1.L.length), (67, .int .i64 i73)] [(zGr.d p1), (zGr.d x81)] (st (by simp [q82])) ?_
    obtain ⟨v83, q84, l75⟩ := bs l75
    obtain ⟨l85, q86, l75⟩ := bs l75
    obtain ⟨q87, q88⟩ := app_ok q86
    try simp at q87
    refine last 81 0 [(4, .osl ⟨1, 9⟩ (l85.map cS)), (65, .sl (p1.L.map zGr.c)), (66, .int .i64 p1.L.length), (67, .int .i64 i73)] [(zGr.d p1), (zGr.d x81)] ?_ fun zz hs => ?_
    ·refine st ?_
     simp [q87, q88]
     have r90 := zDz x81 v83 q84
     try simp [q87, q88] at r90
     refine zAA r90 (by simp) rfl ?_
     simp [q87, q88]
    refine zEs <| zBi ?_ hs
    have q89 : Rng .i64 (((i73 : Nat) : Int) + 1) := by simp only [Rng, inR]; omega
    try simp at q89
    refine last 81 0 [(4, .osl ⟨1, 9⟩ (l85.map cS)), (65, .sl (p1.L.map zGr.c)), (66, .int .i64 p1.L.length), (67, .int .i64 ((i73 + 1 : Nat) : Int))] [(zGr.d p1)] (st (by simp [q89])) fun zz hs => ?_
    exact ⟨(k77, l85, i73 + 1), hs, l75, by simp⟩
   have c91 := ltF g78
   refine zE3 65 rfl fun f92 => ?_
   rw [List.length_map] at f92
   refine zBD <| zAV ?_
   have q93 := Option.some.inj l75
   have q93 := q93.symm
   refine zAV <| zBK <| zBi (t := mkS 81 0 [(4, .osl ⟨1, 9⟩ (o74.map cS))] [(zGr.d p1)]) ?_ (zBS (by simp [q93]))
   obtain ⟨v94, q95, h⟩ := bs h
   obtain ⟨s96, q97, h⟩ := bs h
   obtain ⟨q98, q99⟩ := zCi q97
   try simp at q98
   try simp at q99
   obtain ⟨s100, q101, h⟩ := bs h
   obtain ⟨q102, q103⟩ := zCi q101
   try simp at q102
   try simp at q103
   refine cut 81 0 [(2, .str s100)] [(zGr.d p1)] ?_ ?_
   ·refine st ?_
    simp [q98, q99, q102, q103]
    have r104 := zDx o74 [44, 32] v94 q95
    try simp [q98, q99, q102, q103] at r104
    refine zAA r104 (by simp) rfl ?_
    simp [q98, q99, q102, q103]
   refine zAF ?_
   obtain rfl := oi h
   simp
theorem zFp (fuel : Nat) (p1 : zGr) (r : (List UInt8) × Int) (h : zB1 fuel p1 = some r) : Pure Tryz.prog 32 [.agg [.int .i64 p1.Op, .int .i64 p1.N, .str p1.S, .sl (p1.L.map zGr.c)]] (.tup [.str r.1, .int .i64 r.2]) := by
 rw [zB1] at h
 refine zAE Tryz.func32 (by rfl) (by rfl) (by simp) (by simp) (by simp) <| cutA 14 0 [(1, .mptr 0 0)] [(zGr.d p1)] <| zAH ?_
 obtain ⟨v2, q3, h⟩ := bs h
 refine cut 14 0 [(1, .mptr 0 0), (7, .bool (!v2))] [(zGr.d p1)] ?_ ?_
 ·refine st ?_
  simp
  have r15 := zAR fuel p1 v2 q3
  try simp at r15
  refine zAA r15 (by simp) rfl ?_
  simp
 refine spc h rfl (fun g4 h => ?_) fun g4 h => ?_
 ·have g5 := notT g4
  refine cutA 14 0 [(2, .str ([] : List UInt8)), (3, .int .i64 1)] [(zGr.d p1)] <| zAF <| zAL ?_
  obtain rfl := oi h
  simp
 have g6 := notF g4
 refine zAK <| zAe ?_
 obtain ⟨v7, q8, h⟩ := bs h
 refine cut 14 0 [(4, .str v7)] [(zGr.d p1)] ?_ ?_
 ·refine st ?_
  simp
  have r14 := zFm fuel p1 v7 q8
  try simp at r14
  refine zAA r14 (by simp) rfl ?_
  simp
 refine zAH <| cutA 14 0 [(4, .str v7), (12, .bool (ltI 16384 (v7.length : Int)))] [(zGr.d p1)] <| spc h rfl (fun g9 h => ?_) fun g9 h => ?_
 ·have c10 := ltT g9
  refine factS 4 rfl fun f11 => ?_
  refine cutA 14 0 [(2, .str ([] : List UInt8)), (3, .int .i64 5)] [(zGr.d p1)] <| zAF <| zAL ?_
  obtain rfl := oi h
  simp
 have c12 := ltF g9
 refine factS 4 rfl fun f13 => ?_
 refine zAK <| zAe <| cutA 14 0 [(2, .str v7), (3, .int .i64 0)] [(zGr.d p1)] <| zAF ?_
 obtain rfl := oi h
 simp
theorem zBA (fuel : Nat) : (∀ (s11 : (List zGr)) (s22 : (List zGr)) (r : Bool) (_ : zAU fuel s11 s22 = some r), Pure Tryz.prog 128 [.sl (s11.map zGr.c), .sl (s22.map zGr.c), .fn (.func 82) [] []] (.bool r)) ∧ (∀ (a1 : zGr) (b2 : zGr) (r : Bool) (_ : zAg fuel a1 b2 = some r), Pure Tryz.prog 82 [.agg [.int .i64 a1.Op, .int .i64 a1.N, .str a1.S, .sl (a1.L.map zGr.c)], .agg [.int .i64 b2.Op, .int .i64 b2.N, .str b2.S, .sl (b2.L.map zGr.c)]] (.bool r)) := by
 induction fuel with
 | zero =>
  refine ⟨?_, ?_⟩
  ·intro s11 s22 r h; rw [zAU] at h; cases h
  ·intro a1 b2 r h; rw [zAg] at h; cases h
 | succ fuel ih =>
  obtain ⟨zB2, zFW⟩ := ih
  refine ⟨?_, ?_⟩
  ·intro s11 s22 r h
   rw [zAU] at h
   refine zAE Tryz.func128 (by rfl) (by rfl) (by simp) (by simp) (by simp) <| cutA 32 0 [(0, .sl (s11.map zGr.c)), (1, .sl (s22.map zGr.c)), (2, .fn (.func 82) [] [])] [] <| zAH <| cutA 32 0 [(0, .sl (s11.map zGr.c)), (1, .sl (s22.map zGr.c)), (2, .fn (.func 82) [] []), (14, .bool (!(eqI (s11.length : Int) (s22.length : Int))))] [] ?_
   rcases sp h with ⟨g3, h⟩ | ⟨g3, h⟩
   ·have g4 := notT g3
    have c5 := eqF g4
    refine condT rfl g3 <| cutA 32 0 [(6, .bool false)] [] <| zAF <| zAL ?_
    obtain rfl := oi h
    simp
   have g6 := notF g3
   have c7 := eqT g6
   refine condF rfl g3 <| zAK <| zAe <| zAH <| cutA 32 0 [(1, .sl (s22.map zGr.c)), (2, .fn (.func 82) [] []), (15, .sl (s11.map zGr.c)), (16, .int .i64 s11.length), (17, .int .i64 0)] [] <| zAN ?_
   obtain ⟨o10, l11, h⟩ := bs h
   refine zBw (fun p : Nat × Nat => mkS 32 0 [(1, .sl (s22.map zGr.c)), (2, .fn (.func 82) [] []), (15, .sl (s11.map zGr.c)), (16, .int .i64 s11.length), (17, .int .i64 p.2)] []) (fun p => zAG (zAg fuel) s11 s22 p.1 p.2 = some o10) (fun p => p.1) (fuel, 0) l11 (zBS (by simp)) ?_
   rintro ⟨k12, i8⟩ l11
   try dsimp only at l11 ⊢
   cases k12 with
   | zero =>
    rw [zAG] at l11; cases l11
   | succ k13 =>
    rw [zAG] at l11
    refine cutA 32 0 [(1, .sl (s22.map zGr.c)), (2, .fn (.func 82) [] []), (15, .sl (s11.map zGr.c)), (16, .int .i64 s11.length), (17, .int .i64 i8), (18, .bool (ltI ((i8 : Nat) : Int) (s11.length : Int)))] [] <| zAH <| spc l11 rfl (fun g14 l11 => ?_) fun g14 l11 => ?_
    ·have c15 := ltT g14
     refine zE3 15 rfl fun f16 => ?_
     rw [List.length_map] at f16
     refine zAK <| zAe <| zAH <| zAN ?_
     obtain ⟨x17, q18, l11⟩ := bs l11
     refine cut 32 0 [(1, .sl (s22.map zGr.c)), (2, .fn (.func 82) [] []), (7, .int .i64 i8), (8, .mptr 0 0), (15, .sl (s11.map zGr.c)), (16, .int .i64 s11.length), (17, .int .i64 i8)] [(zGr.d x17)] (st (by simp [q18])) ?_
     obtain ⟨x19, q20, l11⟩ := bs l11
     refine cut 32 0 [(1, .sl (s22.map zGr.c)), (2, .fn (.func 82) [] []), (8, .mptr 0 0), (9, .mptr 1 0), (15, .sl (s11.map zGr.c)), (16, .int .i64 s11.length), (17, .int .i64 i8)] [(zGr.d x17), (zGr.d x19)] (st (by simp [q20])) ?_
     obtain ⟨v21, q22, l11⟩ := bs l11
     refine cut 32 0 [(1, .sl (s22.map zGr.c)), (2, .fn (.func 82) [] []), (15, .sl (s11.map zGr.c)), (16, .int .i64 s11.length), (17, .int .i64 i8), (30, .bool (!v21))] [(zGr.d x17), (zGr.d x19)] ?_ ?_
     ·refine st ?_
      simp
      have r27 := zFW x17 x19 v21 q22
      try simp at r27
      refine zAA r27 (by simp) rfl ?_
      simp
     refine spc l11 rfl (fun g23 l11 => ?_) fun g23 l11 => ?_
     ·have g24 := notT g23
      refine cutA 32 0 [(6, .bool false)] [(zGr.d x17), (zGr.d x19)] <| zAF <| zAX <| zAL ?_
      replace h := retL l11 h
      refine zAL <| zAX <| zAL ?_
      obtain rfl := oi h
      simp
     have g25 := notF g23
     refine zAK <| zEs <| zAe ?_
     have q26 : Rng .i64 (((i8 : Nat) : Int) + 1) := by simp only [Rng, inR]; omega
     try simp at q26
     refine last 32 0 [(1, .sl (s22.map zGr.c)), (2, .fn (.func 82) [] []), (15, .sl (s11.map zGr.c)), (16, .int .i64 s11.length), (17, .int .i64 ((i8 + 1 : Nat) : Int))] [] (st (by simp [q26])) fun zz hs => ?_
     exact ⟨(k13, i8 + 1), hs, l11, by simp⟩
    have c28 := ltF g14
    refine zE3 15 rfl fun f29 => ?_
    rw [List.length_map] at f29
    refine zBD <| zAV ?_
    rcases o10 with o10 | o9
    ·cases l11
    have q30 := Sum.inr.inj (Option.some.inj l11)
    replace h := elimR h
    refine zAV <| zBK <| zBi (t := mkS 32 0 [] []) ?_ (zBS (by simp))
    refine cutA 32 0 [(6, .bool true)] [] <| zAF ?_
    obtain rfl := oi h
    simp
  ·intro a1 b2 r h
   rw [zAg] at h
   refine zAE Tryz.func82 (by rfl) (by rfl) (by simp) (by simp) (by simp) <| cutA 31 0 [(2, .mptr 0 0), (3, .mptr 1 0)] [(zGr.d a1), (zGr.d b2)] ?_
   obtain ⟨b12, q13, h⟩ := bs h
   refine cut 31 0 [(4, .bool b12)] [(zGr.d a1), (zGr.d b2)] ?_ ?_
   ·rcases sp q13 with ⟨g3, q13⟩ | ⟨g3, q13⟩
    ·have c4 := eqT g3
     rcases sp q13 with ⟨g5, q13⟩ | ⟨g5, q13⟩
     ·have c6 := eqT g5
      rcases sp q13 with ⟨g7, q13⟩ | ⟨g7, q13⟩
      ·obtain ⟨v8, q9, q13⟩ := bs q13
       obtain rfl := oi q13
       have g3x := g3
       try simp only [g5, g7] at g3x
       have g5x := g5
       try simp only [g3, g7] at g5x
       have g7x := g7
       try simp only [g3, g5] at g7x
       refine zA3 <| WL.cut 25 31 0 [(24, .bool (eqS a1.S b2.S)), (29, .bool v8)] [(zGr.d a1), (zGr.d b2)] ?_ ?_
       ·simp [g3, g5, g7, g3x, g5x, g7x]
        have r14 := zB2 a1.L b2.L v8 q9
        try simp [g3, g5, g7, g3x, g5x, g7x] at r14
        refine zAA r14 (by simp) rfl ?_
        simp [g3, g5, g7, g3x, g5x, g7x]
       refine WL.last ?_
       simp [g3, g5, g7, g3x, g5x, g7x]
      obtain rfl := oi q13
      refine st ?_
      simp [g3, g5, g7]
     have c10 := eqF g5
     obtain rfl := oi q13
     refine st ?_
     simp [g3, g5]
    have c11 := eqF g3
    obtain rfl := oi q13
    refine st ?_
    simp [g3]
   refine zAF ?_
   obtain rfl := oi h
   simp
theorem zFO (fuel : Nat) : (∀ (a1 : zGr) (b2 : zGr) (r : Bool) (_ : zAg fuel a1 b2 = some r), Pure Tryz.prog 82 [.agg [.int .i64 a1.Op, .int .i64 a1.N, .str a1.S, .sl (a1.L.map zGr.c)], .agg [.int .i64 b2.Op, .int .i64 b2.N, .str b2.S, .sl (b2.L.map zGr.c)]] (.bool r)) := (zBA fuel).2
theorem zAh (fuel : Nat) (a1 : zGr) (b2 : zGr) (r : Bool) (h : zA1 fuel a1 b2 = some r) : Pure Tryz.prog 34 [.agg [.int .i64 a1.Op, .int .i64 a1.N, .str a1.S, .sl (a1.L.map zGr.c)], .agg [.int .i64 b2.Op, .int .i64 b2.N, .str b2.S, .sl (b2.L.map zGr.c)]] (.bool r) := by
 rw [zA1] at h
 refine zAE Tryz.func34 (by rfl) (by rfl) (by simp) (by simp) (by simp) <| cutA 16 0 [(2, .mptr 0 0), (3, .mptr 1 0)] [(zGr.d a1), (zGr.d b2)] ?_
 obtain ⟨b11, q12, h⟩ := bs h
 refine cut 16 0 [(4, .bool b11)] [(zGr.d a1), (zGr.d b2)] ?_ ?_
 ·obtain ⟨v3, q4, q12⟩ := bs q12
  rcases sp q12 with ⟨g5, q12⟩ | ⟨g5, q12⟩
  ·obtain ⟨v6, q7, q12⟩ := bs q12
   rcases sp q12 with ⟨g8, q12⟩ | ⟨g8, q12⟩
   ·obtain ⟨v9, q10, q12⟩ := bs q12
    obtain rfl := oi q12
    have g5x := g5
    try simp only [g8] at g5x
    have g8x := g8
    try simp only [g5] at g8x
    refine zA3 <| WL.cut 2 16 0 [(2, .mptr 0 0), (3, .mptr 1 0), (6, .bool v3)] [(zGr.d a1), (zGr.d b2)] ?_ ?_
    ·simp [g5, g8, g5x, g8x]
     have r13 := zAR fuel a1 v3 q4
     try simp [g5, g8, g5x, g8x] at r13
     refine zAA r13 (by simp) rfl ?_
     simp [g5, g8, g5x, g8x]
    refine WL.cut 3 16 0 [(2, .mptr 0 0), (3, .mptr 1 0), (7, .bool v3), (9, .bool v6)] [(zGr.d a1), (zGr.d b2)] ?_ ?_
    ·simp [g5, g8, g5x, g8x]
     have r14 := zAR fuel b2 v6 q7
     try simp [g5, g8, g5x, g8x] at r14
     refine zAA r14 (by simp) rfl ?_
     simp [g5, g8, g5x, g8x]
    refine WL.cut 5 16 0 [(11, .bool v6), (14, .bool v9)] [(zGr.d a1), (zGr.d b2)] ?_ ?_
    ·simp [g5, g8, g5x, g8x]
     have r15 := zFO fuel a1 b2 v9 q10
     try simp [g5, g8, g5x, g8x] at r15
     refine zAA r15 (by simp) rfl ?_
     simp [g5, g8, g5x, g8x]
    refine WL.last ?_
    simp [g5, g8, g5x, g8x]
   obtain rfl := oi q12
   refine st ?_
   simp [g5, g8]
   have r16 := zAR fuel a1 v3 q4
   try simp [g5, g8] at r16
   refine zAA r16 (by simp) rfl ?_
   simp [g5, g8]
   have r17 := zAR fuel b2 v6 q7
   try simp [g5, g8] at r17
   refine zAA r17 (by simp) rfl ?_
   simp [g5, g8]
  obtain rfl := oi q12
  refine st ?_
  simp [g5]
  have r18 := zAR fuel a1 v3 q4
  try simp [g5] at r18
  refine zAA r18 (by simp) rfl ?_
  simp [g5]
 refine zAF ?_
 obtain rfl := oi h
 simp
theorem zEk (fuel : Nat) : (∀ (a1 : zGr) (b2 : zGr) (r : Bool) (_ : zBL fuel a1 b2 = some r), Pure Tryz.prog 35 [.agg [.int .i64 a1.Op, .int .i64 a1.N, .str a1.S, .sl (a1.L.map zGr.c)], .agg [.int .i64 b2.Op, .int .i64 b2.N, .str b2.S, .sl (b2.L.map zGr.c)]] (.bool r)) := by
 induction fuel with
 | zero => intro a1 b2 r h; rw [zBL] at h; cases h
 | succ fuel ih_ref20_Same =>
  intro a1 b2 r h
  rw [zBL] at h
  refine zAE Tryz.func35 (by rfl) (by rfl) (by simp) (by simp) (by simp) <| cutA 53 0 [(2, .mptr 0 0), (3, .mptr 1 0)] [(zGr.d a1), (zGr.d b2)] <| zAH <| cut 53 0 [(2, .mptr 0 0), (3, .mptr 1 0), (33, .bool ((!(eqI a1.Op b2.Op)) || ((!(eqI a1.N b2.N)) || ((!(eqS a1.S b2.S)) || (!(eqI (a1.L.length : Int) (b2.L.length : Int)))))))] [(zGr.d a1), (zGr.d b2)] ?_ ?_
  ·rcases tf (!(eqI a1.Op b2.Op)) with g3 | g3
   ·have g4 := notT g3
    have c5 := eqF g4
    refine st ?_
    simp [g3]
   have g6 := notF g3
   have c7 := eqT g6
   rcases tf (!(eqI a1.N b2.N)) with g8 | g8
   ·have g9 := notT g8
    have c10 := eqF g9
    refine st ?_
    simp [g3, g8]
   have g11 := notF g8
   have c12 := eqT g11
   rcases tf (!(eqS a1.S b2.S)) with g13 | g13
   ·have g14 := notT g13
    refine st ?_
    simp [g3, g8, g13]
   have g15 := notF g13
   refine st ?_
   simp [g3, g8, g13]
  rcases sp h with ⟨g16, h⟩ | ⟨g16, h⟩
  ·refine condT rfl g16 <| cutA 53 0 [(4, .bool false)] [(zGr.d a1), (zGr.d b2)] <| zAF <| zAL ?_
   obtain rfl := oi h
   simp
  obtain ⟨g17, g18⟩ := orF g16
  have g19 := notF g17
  have c20 := eqT g19
  obtain ⟨g21, g22⟩ := orF g18
  have g23 := notF g21
  have c24 := eqT g23
  obtain ⟨g25, g26⟩ := orF g22
  have g27 := notF g25
  have g28 := notF g26
  have c29 := eqT g28
  refine condF rfl g16 <| zAK <| zAe <| zAH <| cutA 53 0 [(2, .mptr 0 0), (3, .mptr 1 0), (5, .int .i64 0)] [(zGr.d a1), (zGr.d b2)] <| zAN ?_
  obtain ⟨o32, l33, h⟩ := bs h
  refine zBw (fun p : Nat × Nat => mkS 53 0 [(2, .mptr 0 0), (3, .mptr 1 0), (5, .int .i64 p.2)] [(zGr.d a1), (zGr.d b2)]) (fun p => zAz (zBL fuel) a1 b2 p.1 p.2 = some o32) (fun p => p.1) (fuel, 0) l33 (zBS (by simp)) ?_
  rintro ⟨k34, i30⟩ l33
  try dsimp only at l33 ⊢
  cases k34 with
  | zero =>
   rw [zAz] at l33; cases l33
  | succ k35 =>
   rw [zAz] at l33
   refine zAH <| cutA 53 0 [(2, .mptr 0 0), (3, .mptr 1 0), (5, .int .i64 i30), (38, .bool (ltI ((i30 : Nat) : Int) (a1.L.length : Int)))] [(zGr.d a1), (zGr.d b2)] <| spc l33 rfl (fun g36 l33 => ?_) fun g36 l33 => ?_
   ·have c37 := ltT g36
    refine zDD 0 3 rfl rfl rfl fun f38 => ?_
    rw [List.length_map] at f38
    refine zAK <| zAe <| zAH <| zAN ?_
    obtain ⟨x39, q40, l33⟩ := bs l33
    obtain ⟨x41, q42, l33⟩ := bs l33
    obtain ⟨v43, q44, l33⟩ := bs l33
    refine cut 53 0 [(2, .mptr 0 0), (3, .mptr 1 0), (5, .int .i64 i30), (52, .bool (!v43))] [(zGr.d a1), (zGr.d b2)] ?_ ?_
    ·refine zBZ [] mixed (n := 53) rfl (by decide) ?_
     simp [q40, q42]
     have r49 := ih_ref20_Same x39 x41 v43 q44
     try simp [q40, q42] at r49
     refine callD r49 (by simp) rfl ?_
     simp [q40, q42]
    refine spc l33 rfl (fun g45 l33 => ?_) fun g45 l33 => ?_
    ·have g46 := notT g45
     refine cutA 53 0 [(4, .bool false)] [(zGr.d a1), (zGr.d b2)] <| zAF <| zAX <| zAL ?_
     replace h := retL l33 h
     refine zAL <| zAX <| zAL ?_
     obtain rfl := oi h
     simp
    have g47 := notF g45
    refine zAK <| zEs <| zAe ?_
    have q48 : Rng .i64 (((i30 : Nat) : Int) + 1) := by simp only [Rng, inR]; omega
    try simp at q48
    refine last 53 0 [(2, .mptr 0 0), (3, .mptr 1 0), (5, .int .i64 ((i30 + 1 : Nat) : Int))] [(zGr.d a1), (zGr.d b2)] (st (by simp [q48])) fun zz hs => ?_
    exact ⟨(k35, i30 + 1), hs, l33, by simp⟩
   have c50 := ltF g36
   refine zDD 0 3 rfl rfl rfl fun f51 => ?_
   rw [List.length_map] at f51
   refine zBD <| zAV ?_
   rcases o32 with o32 | o31
   ·cases l33
   have q52 := Sum.inr.inj (Option.some.inj l33)
   replace h := elimR h
   refine zAV <| zBK <| zBi (t := mkS 53 0 [] [(zGr.d a1), (zGr.d b2)]) ?_ (zBS (by simp))
   refine cutA 53 0 [(4, .bool true)] [(zGr.d a1), (zGr.d b2)] <| zAF ?_
   obtain rfl := oi h
   simp
theorem zBR (fuel : Nat) (s11 : (List (List UInt8))) (s22 : (List (List UInt8))) (r : Bool) (h : zAl fuel s11 s22 = some r) : Pure Tryz.prog 36 [.sl (s11.map cS), .sl (s22.map cS)] (.bool r) := by
 rw [zAl] at h
 refine zAE Tryz.func36 (by rfl) (by rfl) (by simp) (by simp) (by simp) <| cutA 26 0 [(0, .sl (s11.map cS)), (1, .sl (s22.map cS))] [] <| zAH <| cutA 26 0 [(0, .sl (s11.map cS)), (1, .sl (s22.map cS)), (10, .bool (!(eqI (s11.length : Int) (s22.length : Int))))] [] ?_
 rcases sp h with ⟨g3, h⟩ | ⟨g3, h⟩
 ·have g4 := notT g3
  have c5 := eqF g4
  refine condT rfl g3 <| cutA 26 0 [(4, .bool false)] [] <| zAF <| zAL ?_
  obtain rfl := oi h
  simp
 have g6 := notF g3
 have c7 := eqT g6
 refine condF rfl g3 <| zAK <| zAe <| zAH <| cutA 26 0 [(0, .sl (s11.map cS)), (1, .sl (s22.map cS)), (12, .int .i64 s11.length), (13, .int .i64 0)] [] <| zAN ?_
 obtain ⟨o10, l11, h⟩ := bs h
 refine zBw (fun p : Nat × Nat => mkS 26 0 [(0, .sl (s11.map cS)), (1, .sl (s22.map cS)), (12, .int .i64 s11.length), (13, .int .i64 p.2)] []) (fun p => zAT s11 s22 p.1 p.2 = some o10) (fun p => p.1) (fuel, 0) l11 (zBS (by simp)) ?_
 rintro ⟨k12, i8⟩ l11
 try dsimp only at l11 ⊢
 cases k12 with
 | zero =>
  rw [zAT] at l11; cases l11
 | succ k13 =>
  rw [zAT] at l11
  refine cutA 26 0 [(0, .sl (s11.map cS)), (1, .sl (s22.map cS)), (12, .int .i64 s11.length), (13, .int .i64 i8), (14, .bool (ltI ((i8 : Nat) : Int) (s11.length : Int)))] [] <| zAH <| spc l11 rfl (fun g14 l11 => ?_) fun g14 l11 => ?_
  ·have c15 := ltT g14
   refine zE3 0 rfl fun f16 => ?_
   rw [List.length_map] at f16
   refine zAK <| zAe <| zAH <| zAN <| cutA 26 0 [(0, .sl (s11.map cS)), (1, .sl (s22.map cS)), (5, .int .i64 i8), (12, .int .i64 s11.length), (13, .int .i64 i8)] [] ?_
   obtain ⟨x17, q18, l11⟩ := bs l11
   obtain ⟨x19, q20, l11⟩ := bs l11
   refine cut 26 0 [(0, .sl (s11.map cS)), (1, .sl (s22.map cS)), (12, .int .i64 s11.length), (13, .int .i64 i8), (24, .bool (!(eqS x17 x19)))] [] ?_ ?_
   ·refine zBZ [] mixed (n := 26) rfl (by decide) ?_
    simp [q18, q20]
   refine spc l11 rfl (fun g21 l11 => ?_) fun g21 l11 => ?_
   ·have g22 := notT g21
    refine cutA 26 0 [(4, .bool false)] [] <| zAF <| zAX <| zAL ?_
    replace h := retL l11 h
    refine zAL <| zAX <| zAL ?_
    obtain rfl := oi h
    simp
   have g23 := notF g21
   refine zAK <| zEs <| zAe ?_
   have q24 : Rng .i64 (((i8 : Nat) : Int) + 1) := by simp only [Rng, inR]; omega
   try simp at q24
   refine last 26 0 [(0, .sl (s11.map cS)), (1, .sl (s22.map cS)), (12, .int .i64 s11.length), (13, .int .i64 ((i8 + 1 : Nat) : Int))] [] (st (by simp [q24])) fun zz hs => ?_
   exact ⟨(k13, i8 + 1), hs, l11, by simp⟩
  have c25 := ltF g14
  refine zE3 0 rfl fun f26 => ?_
  rw [List.length_map] at f26
  refine zBD <| zAV ?_
  rcases o10 with o10 | o9
  ·cases l11
  have q27 := Sum.inr.inj (Option.some.inj l11)
  replace h := elimR h
  refine zAV <| zBK <| zBi (t := mkS 26 0 [] []) ?_ (zBS (by simp))
  refine cutA 26 0 [(4, .bool true)] [] <| zAF ?_
  obtain rfl := oi h
  simp
theorem zDV (fuel : Nat) : (∀ (n1 : Int) (r : (List UInt8)) (_ : zAf fuel n1 = some r), Pure Tryz.prog 84 [.int .i64 n1] (.str r)) := by
 induction fuel with
 | zero => intro n1 r h; rw [zAf] at h; cases h
 | succ fuel zDc =>
  intro n1 r h
  rw [zAf] at h
  refine zAE Tryz.func84 (by rfl) (by rfl) (by simp) (by simp) (by simp) <| cutA 26 0 [(0, .int .i64 n1)] [] <| zAH <| cutA 26 0 [(0, .int .i64 n1), (4, .bool (ltI n1 0))] [] <| spc h rfl (fun g2 h => ?_) fun g2 h => ?_
  ·have c3 := ltT g2
   obtain ⟨n4, q5, h⟩ := bs h
   obtain ⟨q6, q7⟩ := zEr q5
   try simp at q6
   try simp at q7
   have c8 := q6; simp only [Rng, inR] at c8
   obtain ⟨v9, q10, h⟩ := bs h
   obtain ⟨s11, q12, h⟩ := bs h
   obtain ⟨q13, q14⟩ := zCi q12
   try simp at q13
   try simp at q14
   refine cut 26 0 [(2, .str s11)] [] ?_ ?_
   ·refine st ?_
    simp [q6, q7, q13, q14]
    have r15 := zDc n4 v9 q10
    try simp [q6, q7, q13, q14] at r15
    refine zAA r15 (by simp) rfl ?_
    simp [q6, q7, q13, q14]
   refine zAF <| zAL ?_
   obtain rfl := oi h
   simp
  have c16 := ltF g2
  refine zAK <| zAe <| zAH <| cutA 26 0 [(0, .int .i64 n1), (10, .bool (ltI n1 10))] [] <| spc h rfl (fun g17 h => ?_) fun g17 h => ?_
  ·have c18 := ltT g17
   have q19 : Rng .i64 (48 + n1) := by simp only [Rng, inR]; omega
   try simp at q19
   have q20 : Rng .u8 (48 + n1) := by simp only [Rng, inR]; omega
   refine cut 26 0 [(2, .str [(UInt8.ofNat (Int.toNat (48 + n1)))])] [] (st (by simp [q19, q20])) <| zAF <| zAL ?_
   obtain rfl := oi h
   simp
  have c21 := ltF g17
  refine zAK <| zAe ?_
  obtain ⟨n22, q23, h⟩ := bs h
  obtain ⟨q24, q25⟩ := zEr q23
  try simp at q24
  try simp at q25
  obtain ⟨v26, q27, h⟩ := bs h
  have q28 : Rng .i64 (Int.tmod n1 10) := by rw [Int.tmod_eq_emod_of_nonneg (by omega)]; simp only [Rng, inR]; omega
  have q29 : 0 ≤ Int.tmod n1 10 ∧ Int.tmod n1 10 ≤ 9 := by rw [Int.tmod_eq_emod_of_nonneg (by omega)]; omega
  have q30 : Rng .i64 (48 + (Int.tmod n1 10)) := by simp only [Rng, inR]; omega
  try simp at q30
  have q31 : Rng .u8 (48 + (Int.tmod n1 10)) := by simp only [Rng, inR]; omega
  obtain ⟨s32, q33, h⟩ := bs h
  obtain ⟨q34, q35⟩ := zCi q33
  try simp at q34
  try simp at q35
  refine cut 26 0 [(2, .str s32)] [] ?_ ?_
  ·refine zBZ [] mixed (n := 26) rfl (by decide) ?_
   simp [q24, q25, q28, q30, q31, q34, q35]
   have r36 := zDc n22 v26 q27
   try simp [q24, q25, q28, q30, q31, q34, q35] at r36
   refine callD r36 (by simp) rfl ?_
   simp [q24, q25, q28, q30, q31, q34, q35]
  refine zAF ?_
  obtain rfl := oi h
  simp
theorem ref20_Text_ok (fuel : Nat) : (∀ (p1 : zGr) (r : (List UInt8)) (_ : zAk fuel p1 = some r), Pure Tryz.prog 38 [.agg [.int .i64 p1.Op, .int .i64 p1.N, .str p1.S, .sl (p1.L.map zGr.c)]] (.str r)) := by
 induction fuel with
 | zero => intro p1 r h; rw [zAk] at h; cases h
 | succ fuel zDb =>
  intro p1 r h
  rw [zAk] at h
  refine zAE Tryz.func38 (by rfl) (by rfl) (by simp) (by simp) (by simp) <| cutA 84 0 [(1, .mptr 0 0)] [(zGr.d p1)] <| zAH <| cutA 84 0 [(1, .mptr 0 0), (7, .int .i64 p1.Op)] [(zGr.d p1)] <| zAN <| cutA 84 0 [(1, .mptr 0 0), (7, .int .i64 p1.Op), (8, .bool (eqI p1.Op 1))] [(zGr.d p1)] <| spc h rfl (fun g2 h => ?_) fun g2 h => ?_
  ·refine cutA 84 0 [(2, .str [95])] [(zGr.d p1)] <| zAF <| zAX <| zAL ?_
   obtain rfl := oi h
   simp
  refine cutA 84 0 [(1, .mptr 0 0), (7, .int .i64 p1.Op), (10, .bool (eqI p1.Op 2))] [(zGr.d p1)] <| spc h rfl (fun g5 h => ?_) fun g5 h => ?_
  ·refine cutA 84 0 [(2, .str p1.S)] [(zGr.d p1)] <| zAF <| zAX <| zAL ?_
   obtain rfl := oi h
   simp
  refine cutA 84 0 [(1, .mptr 0 0), (7, .int .i64 p1.Op), (14, .bool (eqI p1.Op 3))] [(zGr.d p1)] <| spc h rfl (fun g8 h => ?_) fun g8 h => ?_
  ·refine zAH <| cutA 84 0 [(1, .mptr 0 0), (18, .bool (ltI p1.N 0))] [(zGr.d p1)] <| spc h rfl (fun g10 h => ?_) fun g10 h => ?_
   ·have c11 := ltT g10
    obtain ⟨n12, q13, h⟩ := bs h
    obtain ⟨q14, q15⟩ := zEr q13
    try simp at q14
    try simp at q15
    have c16 := q14; simp only [Rng, inR] at c16
    obtain ⟨v17, q18, h⟩ := bs h
    obtain ⟨s19, q20, h⟩ := bs h
    obtain ⟨q21, q22⟩ := zCi q20
    try simp at q21
    try simp at q22
    refine cut 84 0 [(2, .str s19)] [(zGr.d p1)] ?_ ?_
    ·refine st ?_
     simp [q14, q15, q21, q22]
     have r23 := zDV fuel n12 v17 q18
     try simp [q14, q15, q21, q22] at r23
     refine zAA r23 (by simp) rfl ?_
     simp [q14, q15, q21, q22]
    refine zAF <| zAL <| zAX <| zAL ?_
    obtain rfl := oi h
    simp
   have c24 := ltF g10
   refine zAK <| zAe ?_
   obtain ⟨v25, q26, h⟩ := bs h
   refine cut 84 0 [(2, .str v25)] [(zGr.d p1)] ?_ ?_
   ·refine st ?_
    simp
    have r27 := zDV fuel p1.N v25 q26
    try simp at r27
    refine zAA r27 (by simp) rfl ?_
    simp
   refine zAF <| zAX <| zAL ?_
   obtain rfl := oi h
   simp
  refine cutA 84 0 [(1, .mptr 0 0), (27, .bool (eqI p1.Op 4))] [(zGr.d p1)] <| spc h rfl (fun g29 h => ?_) fun g29 h => ?_
  ·refine zAH <| cutA 84 0 [(1, .mptr 0 0), (32, .bool (eqI (p1.L.length : Int) 0))] [(zGr.d p1)] <| spc h rfl (fun g31 h => ?_) fun g31 h => ?_
   ·have c32 := eqT g31
    refine cutA 84 0 [(2, .str p1.S)] [(zGr.d p1)] <| zAF <| zAL <| zAX <| zAL ?_
    obtain rfl := oi h
    simp
   have c33 := eqF g31
   refine zAK <| zAe ?_
   obtain ⟨x34, q35, h⟩ := bs h
   obtain ⟨v36, q37, h⟩ := bs h
   refine cut 84 0 [(1, .mptr 0 0), (3, .str v36)] [(zGr.d p1)] ?_ ?_
   ·refine st ?_
    simp [q35]
    have r71 := zDb x34 v36 q37
    try simp [q35] at r71
    refine zAA r71 (by simp) rfl ?_
    simp [q35]
   refine zAH <| cut 84 0 [(1, .mptr 0 0), (3, .str v36), (54, .bool ((eqI x34.Op 4) && (ltI 0 (x34.L.length : Int))))] [(zGr.d p1)] ?_ ?_
   ·rcases tf (eqI x34.Op 4) with g38 | g38
    ·have c39 := eqT g38
     refine st ?_
     simp [q35, g38]
    have c40 := eqF g38
    refine st ?_
    simp [q35, g38]
   rcases sp h with ⟨g41, h⟩ | ⟨g41, h⟩
   ·obtain ⟨g42, g43⟩ := andT g41
    have c44 := eqT g42
    have c45 := ltT g43
    refine condT rfl g41 ?_
    obtain ⟨s47, q48, h⟩ := bs h
    obtain ⟨q49, q50⟩ := zCi q48
    try simp at q49
    try simp at q50
    obtain ⟨s51, q52, h⟩ := bs h
    obtain ⟨q53, q54⟩ := zCi q52
    try simp at q53
    try simp at q54
    refine last 84 0 [(1, .mptr 0 0), (3, .str s51)] [(zGr.d p1)] (st (by simp [q49, q50, q53, q54])) fun zz hs => ?_
    refine zBi ?_ hs
    obtain ⟨s55, q56, h⟩ := bs h
    obtain ⟨q57, q58⟩ := zCi q56
    try simp at q57
    try simp at q58
    obtain ⟨s59, q60, h⟩ := bs h
    obtain ⟨q61, q62⟩ := zCi q60
    try simp at q61
    try simp at q62
    refine cut 84 0 [(2, .str s59)] [(zGr.d p1)] (st (by simp [q57, q58, q61, q62])) <| zAF <| zAX <| zAL ?_
    obtain rfl := oi h
    simp
   refine condF rfl g41 <| zAK <| zAe ?_
   obtain ⟨s63, q64, h⟩ := bs h
   obtain ⟨q65, q66⟩ := zCi q64
   try simp at q65
   try simp at q66
   obtain ⟨s67, q68, h⟩ := bs h
   obtain ⟨q69, q70⟩ := zCi q68
   try simp at q69
   try simp at q70
   refine cut 84 0 [(2, .str s67)] [(zGr.d p1)] (st (by simp [q65, q66, q69, q70])) <| zAF <| zAX <| zAL ?_
   obtain rfl := oi h
   simp
  refine zAK <| zEs <| zAe <| cutA 84 0 [(1, .mptr 0 0), (4, .str [40])] [(zGr.d p1)] <| zAH <| cutA 84 0 [(1, .mptr 0 0), (4, .str [40]), (5, .int .i64 0)] [(zGr.d p1)] <| zAN ?_
  obtain ⟨o75, l76, h⟩ := bs h
  refine zBw (fun p : Nat × (List UInt8) × Nat => mkS 84 0 [(1, .mptr 0 0), (4, .str p.2.1), (5, .int .i64 p.2.2)] [(zGr.d p1)]) (fun p => zAc (zAk fuel) p1 p.1 p.2.1 p.2.2 = some o75) (fun p => p.1) (fuel, [40], 0) l76 (zBS (by simp)) ?_
  rintro ⟨k77, s73, i74⟩ l76
  try dsimp only at l76 ⊢
  cases k77 with
  | zero =>
   rw [zAc] at l76; cases l76
  | succ k78 =>
   rw [zAc] at l76
   refine zAH <| cutA 84 0 [(1, .mptr 0 0), (4, .str s73), (5, .int .i64 i74), (67, .bool (ltI ((i74 : Nat) : Int) (p1.L.length : Int)))] [(zGr.d p1)] <| spc l76 rfl (fun g79 l76 => ?_) fun g79 l76 => ?_
   ·have c80 := ltT g79
    refine zDD 0 3 rfl rfl rfl fun f81 => ?_
    rw [List.length_map] at f81
    refine zAK <| zAe <| zAH <| zAN <| zAH <| cutA 84 0 [(1, .mptr 0 0), (4, .str s73), (5, .int .i64 i74), (71, .bool (ltI 0 ((i74 : Nat) : Int)))] [(zGr.d p1)] <| spc l76 rfl (fun g82 l76 => ?_) fun g82 l76 => ?_
    ·have c83 := ltT g82
     obtain ⟨s84, q85, l76⟩ := bs l76
     obtain ⟨q86, q87⟩ := zCi q85
     try simp at q86
     try simp at q87
     refine last 84 0 [(1, .mptr 0 0), (4, .str s84), (5, .int .i64 i74)] [(zGr.d p1)] (st (by simp [q86, q87])) fun zz hs => ?_
     refine zBi ?_ hs
     obtain ⟨x88, q89, l76⟩ := bs l76
     obtain ⟨v90, q91, l76⟩ := bs l76
     obtain ⟨s92, q93, l76⟩ := bs l76
     obtain ⟨q94, q95⟩ := zCi q93
     try simp at q94
     try simp at q95
     refine last 84 0 [(1, .mptr 0 0), (4, .str s92), (5, .int .i64 i74)] [(zGr.d p1)] ?_ fun zz hs => ?_
     ·refine st ?_
      simp [q89, q94, q95]
      have r97 := zDb x88 v90 q91
      try simp [q89, q94, q95] at r97
      refine zAA r97 (by simp) rfl ?_
      simp [q89, q94, q95]
     refine zEs <| zBi ?_ hs
     have q96 : Rng .i64 (((i74 : Nat) : Int) + 1) := by simp only [Rng, inR]; omega
     try simp at q96
     refine last 84 0 [(1, .mptr 0 0), (4, .str s92), (5, .int .i64 ((i74 + 1 : Nat) : Int))] [(zGr.d p1)] (st (by simp [q96])) fun zz hs => ?_
     exact ⟨(k78, s92, i74 + 1), hs, l76, by simp⟩
    have c98 := ltF g82
    refine zAK <| zAe ?_
    obtain ⟨x99, q100, l76⟩ := bs l76
    obtain ⟨v101, q102, l76⟩ := bs l76
    obtain ⟨s103, q104, l76⟩ := bs l76
    obtain ⟨q105, q106⟩ := zCi q104
    try simp at q105
    try simp at q106
    refine last 84 0 [(1, .mptr 0 0), (4, .str s103), (5, .int .i64 i74)] [(zGr.d p1)] ?_ fun zz hs => ?_
    ·refine st ?_
     simp [q100, q105, q106]
     have r108 := zDb x99 v101 q102
     try simp [q100, q105, q106] at r108
     refine zAA r108 (by simp) rfl ?_
     simp [q100, q105, q106]
    refine zEs <| zBi ?_ hs
    have q107 : Rng .i64 (((i74 : Nat) : Int) + 1) := by simp only [Rng, inR]; omega
    try simp at q107
    refine last 84 0 [(1, .mptr 0 0), (4, .str s103), (5, .int .i64 ((i74 + 1 : Nat) : Int))] [(zGr.d p1)] (st (by simp [q107])) fun zz hs => ?_
    exact ⟨(k78, s103, i74 + 1), hs, l76, by simp⟩
   have c109 := ltF g79
   refine zDD 0 3 rfl rfl rfl fun f110 => ?_
   rw [List.length_map] at f110
   refine zBD <| zAV ?_
   have q111 := Option.some.inj l76
   have q111 := q111.symm
   refine zAV <| zBK <| zBi (t := mkS 84 0 [(4, .str o75)] [(zGr.d p1)]) ?_ (zBS (by simp [q111]))
   obtain ⟨s112, q113, h⟩ := bs h
   obtain ⟨q114, q115⟩ := zCi q113
   try simp at q114
   try simp at q115
   refine cut 84 0 [(2, .str s112)] [(zGr.d p1)] (st (by simp [q114, q115])) <| zAF ?_
   obtain rfl := oi h
   simp
theorem zDt (fuel : Nat) (a1 : zGr) (b2 : zGr) (r : Bool) (h : zBM fuel a1 b2 = some r) : Pure Tryz.prog 6 [.agg [.int .i64 a1.Op, .int .i64 a1.N, .str a1.S, .sl (a1.L.map zGr.c)], .agg [.int .i64 b2.Op, .int .i64 b2.N, .str b2.S, .sl (b2.L.map zGr.c)]] (.bool r) := by
 rw [zBM] at h
 refine zAE Tryz.func6 (by rfl) (by rfl) (by simp) (by simp) (by simp) <| cutA 92 0 [(2, .mptr 0 0), (3, .mptr 1 0)] [(zGr.d a1), (zGr.d b2)] <| zAH ?_
 obtain ⟨v3, q4, h⟩ := bs h
 refine cut 92 0 [(2, .mptr 0 0), (3, .mptr 1 0), (11, .bool (!v3))] [(zGr.d a1), (zGr.d b2)] ?_ ?_
 ·refine st ?_
  simp
  have r115 := zGg v3 q4
  try simp at r115
  refine zAA r115 (by simp) rfl ?_
  simp
 refine spc h rfl (fun g5 h => ?_) fun g5 h => ?_
 ·have g6 := notT g5
  refine cutA 92 0 [(4, .bool false)] [(zGr.d a1), (zGr.d b2)] <| zAF <| zAL ?_
  obtain rfl := oi h
  simp
 have g7 := notF g5
 refine zAK <| zAe <| zAH ?_
 obtain ⟨b13, q14, h⟩ := bs h
 refine cut 92 0 [(2, .mptr 0 0), (3, .mptr 1 0), (17, .bool b13)] [(zGr.d a1), (zGr.d b2)] ?_ ?_
 ·obtain ⟨v8, q9, q14⟩ := bs q14
  rcases sp q14 with ⟨g10, q14⟩ | ⟨g10, q14⟩
  ·obtain rfl := oi q14
   refine st ?_
   simp [g10]
   have r112 := zD8 fuel a1 v8 q9
   try simp [g10] at r112
   refine zAA r112 (by simp) rfl ?_
   simp [g10]
  obtain ⟨v11, q12, q14⟩ := bs q14
  obtain rfl := oi q14
  refine st ?_
  simp [g10]
  have r113 := zD8 fuel a1 v8 q9
  try simp [g10] at r113
  refine zAA r113 (by simp) rfl ?_
  simp [g10]
  have r114 := zD8 fuel b2 v11 q12
  try simp [g10] at r114
  refine zAA r114 (by simp) rfl ?_
  simp [g10]
 refine spc h rfl (fun g15 h => ?_) fun g15 h => ?_
 ·refine cutA 92 0 [(4, .bool true)] [(zGr.d a1), (zGr.d b2)] <| zAF <| zAL ?_
  obtain rfl := oi h
  simp
 refine zAK <| zAe ?_
 obtain ⟨v16, q17, h⟩ := bs h
 refine cut 92 0 [(2, .mptr 0 0), (3, .mptr 1 0), (5, .bool v16)] [(zGr.d a1), (zGr.d b2)] ?_ ?_
 ·refine st ?_
  simp
  have r111 := zBt fuel a1 v16 q17
  try simp at r111
  refine zAA r111 (by simp) rfl ?_
  simp
 obtain ⟨v18, q19, h⟩ := bs h
 refine cut 92 0 [(2, .mptr 0 0), (3, .mptr 1 0), (5, .bool v16), (6, .sl (v18.1.map cS)), (7, .int .i64 v18.2)] [(zGr.d a1), (zGr.d b2)] ?_ ?_
 ·refine st ?_
  simp
  have r110 := zFo fuel a1 v18 q19
  try simp at r110
  refine zAA r110 (by simp) rfl ?_
  simp
 obtain ⟨v20, q21, h⟩ := bs h
 refine cut 92 0 [(2, .mptr 0 0), (3, .mptr 1 0), (5, .bool v16), (6, .sl (v18.1.map cS)), (7, .int .i64 v18.2), (8, .str v20.1), (9, .int .i64 v20.2)] [(zGr.d a1), (zGr.d b2)] ?_ ?_
 ·refine st ?_
  simp
  have r109 := zFp fuel a1 v20 q21
  try simp at r109
  refine zAA r109 (by simp) rfl ?_
  simp
 refine zAH ?_
 obtain ⟨b50, q51, h⟩ := bs h
 refine cut 92 0 [(2, .mptr 0 0), (5, .bool v16), (6, .sl (v18.1.map cS)), (7, .int .i64 v18.2), (8, .str v20.1), (9, .int .i64 v20.2), (56, .bool b50)] [(zGr.d a1), (zGr.d b2)] ?_ ?_
 ·obtain ⟨v22, q23, q51⟩ := bs q51
  rcases sp q51 with ⟨g24, q51⟩ | ⟨g24, q51⟩
  ·have g25 := notT g24
   obtain rfl := oi q51
   refine zA3 <| WL.cut 2 92 0 [(2, .mptr 0 0), (3, .mptr 1 0), (5, .bool v16), (6, .sl (v18.1.map cS)), (7, .int .i64 v18.2), (8, .str v20.1), (9, .int .i64 v20.2), (31, .bool v22)] [(zGr.d a1), (zGr.d b2)] ?_ ?_
   ·simp [g24]
    have r87 := zAR fuel a1 v22 q23
    try simp [g24] at r87
    refine zAA r87 (by simp) rfl ?_
    simp [g24]
   refine WL.last ?_
   simp [g24]
  have g26 := notF g24
  obtain ⟨v27, q28, q51⟩ := bs q51
  rcases sp q51 with ⟨g29, q51⟩ | ⟨g29, q51⟩
  ·obtain ⟨v30, q31, q51⟩ := bs q51
   rcases sp q51 with ⟨g32, q51⟩ | ⟨g32, q51⟩
   ·obtain ⟨v33, q34, q51⟩ := bs q51
    rcases sp q51 with ⟨g35, q51⟩ | ⟨g35, q51⟩
    ·have g36 := notT g35
     obtain rfl := oi q51
     have g24x := g24
     try simp only [g29, g32, g35] at g24x
     have g29x := g29
     try simp only [g24, g32, g35] at g29x
     have g32x := g32
     try simp only [g24, g29, g35] at g32x
     have g35x := g35
     try simp only [g24, g29, g32] at g35x
     refine zA3 <| WL.cut 2 92 0 [(2, .mptr 0 0), (3, .mptr 1 0), (5, .bool v16), (6, .sl (v18.1.map cS)), (7, .int .i64 v18.2), (8, .str v20.1), (9, .int .i64 v20.2), (31, .bool v22)] [(zGr.d a1), (zGr.d b2)] ?_ ?_
     ·simp [g24, g29, g32, g35, g24x, g29x, g32x, g35x]
      have r88 := zAR fuel a1 v22 q23
      try simp [g24, g29, g32, g35, g24x, g29x, g32x, g35x] at r88
      refine zAA r88 (by simp) rfl ?_
      simp [g24, g29, g32, g35, g24x, g29x, g32x, g35x]
     refine WL.cut 6 92 0 [(2, .mptr 0 0), (3, .mptr 1 0), (5, .bool v16), (6, .sl (v18.1.map cS)), (7, .int .i64 v18.2), (8, .str v20.1), (9, .int .i64 v20.2), (34, .bool (!(eqB v22 v16))), (37, .bool v27)] [(zGr.d a1), (zGr.d b2)] ?_ ?_
     ·simp [g24, g29, g32, g35, g24x, g29x, g32x, g35x]
      have r89 := zAh fuel a1 b2 v27 q28
      try simp [g24, g29, g32, g35, g24x, g29x, g32x, g35x] at r89
      refine zAA r89 (by simp) rfl ?_
      simp [g24, g29, g32, g35, g24x, g29x, g32x, g35x]
     refine WL.cut 4 92 0 [(2, .mptr 0 0), (3, .mptr 1 0), (5, .bool v16), (6, .sl (v18.1.map cS)), (7, .int .i64 v18.2), (8, .str v20.1), (9, .int .i64 v20.2), (34, .bool (!(eqB v22 v16))), (37, .bool v27), (39, .bool v16), (41, .bool v30)] [(zGr.d a1), (zGr.d b2)] ?_ ?_
     ·simp [g24, g29, g32, g35, g24x, g29x, g32x, g35x]
      have r90 := zBt fuel b2 v30 q31
      try simp [g24, g29, g32, g35, g24x, g29x, g32x, g35x] at r90
      refine zAA r90 (by simp) rfl ?_
      simp [g24, g29, g32, g35, g24x, g29x, g32x, g35x]
     refine WL.cut 5 92 0 [(2, .mptr 0 0), (5, .bool v16), (6, .sl (v18.1.map cS)), (7, .int .i64 v18.2), (8, .str v20.1), (9, .int .i64 v20.2), (34, .bool (!(eqB v22 v16))), (37, .bool v27), (43, .bool v30), (46, .bool v33)] [(zGr.d a1), (zGr.d b2)] ?_ ?_
     ·simp [g24, g29, g32, g35, g24x, g29x, g32x, g35x]
      have r91 := zEk fuel a1 b2 v33 q34
      try simp [g24, g29, g32, g35, g24x, g29x, g32x, g35x] at r91
      refine zAA r91 (by simp) rfl ?_
      simp [g24, g29, g32, g35, g24x, g29x, g32x, g35x]
     refine WL.last ?_
     simp [g24, g29, g32, g35, g24x, g29x, g32x, g35x]
    have g37 := notF g35
    obtain ⟨v38, q39, q51⟩ := bs q51
    obtain rfl := oi q51
    have g24x := g24
    try simp only [g29, g32, g35] at g24x
    have g29x := g29
    try simp only [g24, g32, g35] at g29x
    have g32x := g32
    try simp only [g24, g29, g35] at g32x
    have g35x := g35
    try simp only [g24, g29, g32] at g35x
    refine zA3 <| WL.cut 2 92 0 [(2, .mptr 0 0), (3, .mptr 1 0), (5, .bool v16), (6, .sl (v18.1.map cS)), (7, .int .i64 v18.2), (8, .str v20.1), (9, .int .i64 v20.2), (31, .bool v22)] [(zGr.d a1), (zGr.d b2)] ?_ ?_
    ·simp [g24, g29, g32, g35, g24x, g29x, g32x, g35x]
     have r92 := zAR fuel a1 v22 q23
     try simp [g24, g29, g32, g35, g24x, g29x, g32x, g35x] at r92
     refine zAA r92 (by simp) rfl ?_
     simp [g24, g29, g32, g35, g24x, g29x, g32x, g35x]
    refine WL.cut 6 92 0 [(2, .mptr 0 0), (3, .mptr 1 0), (5, .bool v16), (6, .sl (v18.1.map cS)), (7, .int .i64 v18.2), (8, .str v20.1), (9, .int .i64 v20.2), (34, .bool (!(eqB v22 v16))), (37, .bool v27)] [(zGr.d a1), (zGr.d b2)] ?_ ?_
    ·simp [g24, g29, g32, g35, g24x, g29x, g32x, g35x]
     have r93 := zAh fuel a1 b2 v27 q28
     try simp [g24, g29, g32, g35, g24x, g29x, g32x, g35x] at r93
     refine zAA r93 (by simp) rfl ?_
     simp [g24, g29, g32, g35, g24x, g29x, g32x, g35x]
    refine WL.cut 4 92 0 [(2, .mptr 0 0), (3, .mptr 1 0), (5, .bool v16), (6, .sl (v18.1.map cS)), (7, .int .i64 v18.2), (8, .str v20.1), (9, .int .i64 v20.2), (34, .bool (!(eqB v22 v16))), (37, .bool v27), (39, .bool v16), (41, .bool v30)] [(zGr.d a1), (zGr.d b2)] ?_ ?_
    ·simp [g24, g29, g32, g35, g24x, g29x, g32x, g35x]
     have r94 := zBt fuel b2 v30 q31
     try simp [g24, g29, g32, g35, g24x, g29x, g32x, g35x] at r94
     refine zAA r94 (by simp) rfl ?_
     simp [g24, g29, g32, g35, g24x, g29x, g32x, g35x]
    refine WL.cut 5 92 0 [(2, .mptr 0 0), (5, .bool v16), (6, .sl (v18.1.map cS)), (7, .int .i64 v18.2), (8, .str v20.1), (9, .int .i64 v20.2), (34, .bool (!(eqB v22 v16))), (37, .bool v27), (43, .bool v30), (46, .bool v33)] [(zGr.d a1), (zGr.d b2)] ?_ ?_
    ·simp [g24, g29, g32, g35, g24x, g29x, g32x, g35x]
     have r95 := zEk fuel a1 b2 v33 q34
     try simp [g24, g29, g32, g35, g24x, g29x, g32x, g35x] at r95
     refine zAA r95 (by simp) rfl ?_
     simp [g24, g29, g32, g35, g24x, g29x, g32x, g35x]
    refine WL.cut 7 92 0 [(2, .mptr 0 0), (5, .bool v16), (6, .sl (v18.1.map cS)), (7, .int .i64 v18.2), (8, .str v20.1), (9, .int .i64 v20.2), (50, .bool (!(eqB v27 v33))), (53, .bool v38)] [(zGr.d a1), (zGr.d b2)] ?_ ?_
    ·simp [g24, g29, g32, g35, g24x, g29x, g32x, g35x]
     have r96 := zAh fuel a1 a1 v38 q39
     try simp [g24, g29, g32, g35, g24x, g29x, g32x, g35x] at r96
     refine zAA r96 (by simp) rfl ?_
     simp [g24, g29, g32, g35, g24x, g29x, g32x, g35x]
    refine WL.last ?_
    simp [g24, g29, g32, g35, g24x, g29x, g32x, g35x]
   rcases sp q51 with ⟨g40, q51⟩ | ⟨g40, q51⟩
   ·have g41 := notT g40
    obtain rfl := oi q51
    have g24x := g24
    try simp only [g29, g32, g40] at g24x
    have g29x := g29
    try simp only [g24, g32, g40] at g29x
    have g32x := g32
    try simp only [g24, g29, g40] at g32x
    have g40x := g40
    try simp only [g24, g29, g32] at g40x
    refine zA3 <| WL.cut 2 92 0 [(2, .mptr 0 0), (3, .mptr 1 0), (5, .bool v16), (6, .sl (v18.1.map cS)), (7, .int .i64 v18.2), (8, .str v20.1), (9, .int .i64 v20.2), (31, .bool v22)] [(zGr.d a1), (zGr.d b2)] ?_ ?_
    ·simp [g24, g29, g32, g40, g24x, g29x, g32x, g40x]
     have r97 := zAR fuel a1 v22 q23
     try simp [g24, g29, g32, g40, g24x, g29x, g32x, g40x] at r97
     refine zAA r97 (by simp) rfl ?_
     simp [g24, g29, g32, g40, g24x, g29x, g32x, g40x]
    refine WL.cut 6 92 0 [(2, .mptr 0 0), (3, .mptr 1 0), (5, .bool v16), (6, .sl (v18.1.map cS)), (7, .int .i64 v18.2), (8, .str v20.1), (9, .int .i64 v20.2), (34, .bool (!(eqB v22 v16))), (37, .bool v27)] [(zGr.d a1), (zGr.d b2)] ?_ ?_
    ·simp [g24, g29, g32, g40, g24x, g29x, g32x, g40x]
     have r98 := zAh fuel a1 b2 v27 q28
     try simp [g24, g29, g32, g40, g24x, g29x, g32x, g40x] at r98
     refine zAA r98 (by simp) rfl ?_
     simp [g24, g29, g32, g40, g24x, g29x, g32x, g40x]
    refine WL.cut 4 92 0 [(2, .mptr 0 0), (3, .mptr 1 0), (5, .bool v16), (6, .sl (v18.1.map cS)), (7, .int .i64 v18.2), (8, .str v20.1), (9, .int .i64 v20.2), (34, .bool (!(eqB v22 v16))), (37, .bool v27), (39, .bool v16), (41, .bool v30)] [(zGr.d a1), (zGr.d b2)] ?_ ?_
    ·simp [g24, g29, g32, g40, g24x, g29x, g32x, g40x]
     have r99 := zBt fuel b2 v30 q31
     try simp [g24, g29, g32, g40, g24x, g29x, g32x, g40x] at r99
     refine zAA r99 (by simp) rfl ?_
     simp [g24, g29, g32, g40, g24x, g29x, g32x, g40x]
    refine WL.last ?_
    simp [g24, g29, g32, g40, g24x, g29x, g32x, g40x]
   have g42 := notF g40
   obtain ⟨v43, q44, q51⟩ := bs q51
   obtain rfl := oi q51
   have g24x := g24
   try simp only [g29, g32, g40] at g24x
   have g29x := g29
   try simp only [g24, g32, g40] at g29x
   have g32x := g32
   try simp only [g24, g29, g40] at g32x
   have g40x := g40
   try simp only [g24, g29, g32] at g40x
   refine zA3 <| WL.cut 2 92 0 [(2, .mptr 0 0), (3, .mptr 1 0), (5, .bool v16), (6, .sl (v18.1.map cS)), (7, .int .i64 v18.2), (8, .str v20.1), (9, .int .i64 v20.2), (31, .bool v22)] [(zGr.d a1), (zGr.d b2)] ?_ ?_
   ·simp [g24, g29, g32, g40, g24x, g29x, g32x, g40x]
    have r100 := zAR fuel a1 v22 q23
    try simp [g24, g29, g32, g40, g24x, g29x, g32x, g40x] at r100
    refine zAA r100 (by simp) rfl ?_
    simp [g24, g29, g32, g40, g24x, g29x, g32x, g40x]
   refine WL.cut 6 92 0 [(2, .mptr 0 0), (3, .mptr 1 0), (5, .bool v16), (6, .sl (v18.1.map cS)), (7, .int .i64 v18.2), (8, .str v20.1), (9, .int .i64 v20.2), (34, .bool (!(eqB v22 v16))), (37, .bool v27)] [(zGr.d a1), (zGr.d b2)] ?_ ?_
   ·simp [g24, g29, g32, g40, g24x, g29x, g32x, g40x]
    have r101 := zAh fuel a1 b2 v27 q28
    try simp [g24, g29, g32, g40, g24x, g29x, g32x, g40x] at r101
    refine zAA r101 (by simp) rfl ?_
    simp [g24, g29, g32, g40, g24x, g29x, g32x, g40x]
   refine WL.cut 4 92 0 [(2, .mptr 0 0), (3, .mptr 1 0), (5, .bool v16), (6, .sl (v18.1.map cS)), (7, .int .i64 v18.2), (8, .str v20.1), (9, .int .i64 v20.2), (34, .bool (!(eqB v22 v16))), (37, .bool v27), (39, .bool v16), (41, .bool v30)] [(zGr.d a1), (zGr.d b2)] ?_ ?_
   ·simp [g24, g29, g32, g40, g24x, g29x, g32x, g40x]
    have r102 := zBt fuel b2 v30 q31
    try simp [g24, g29, g32, g40, g24x, g29x, g32x, g40x] at r102
    refine zAA r102 (by simp) rfl ?_
    simp [g24, g29, g32, g40, g24x, g29x, g32x, g40x]
   refine WL.cut 12 92 0 [(2, .mptr 0 0), (5, .bool v16), (6, .sl (v18.1.map cS)), (7, .int .i64 v18.2), (8, .str v20.1), (9, .int .i64 v20.2), (50, .bool (!(eqB v27 false))), (53, .bool v43)] [(zGr.d a1), (zGr.d b2)] ?_ ?_
   ·simp [g24, g29, g32, g40, g24x, g29x, g32x, g40x]
    have r103 := zAh fuel a1 a1 v43 q44
    try simp [g24, g29, g32, g40, g24x, g29x, g32x, g40x] at r103
    refine zAA r103 (by simp) rfl ?_
    simp [g24, g29, g32, g40, g24x, g29x, g32x, g40x]
   refine WL.last ?_
   simp [g24, g29, g32, g40, g24x, g29x, g32x, g40x]
  rcases sp q51 with ⟨g45, q51⟩ | ⟨g45, q51⟩
  ·have g46 := notT g45
   obtain rfl := oi q51
   have g24x := g24
   try simp only [g29, g45] at g24x
   have g29x := g29
   try simp only [g24, g45] at g29x
   have g45x := g45
   try simp only [g24, g29] at g45x
   refine zA3 <| WL.cut 2 92 0 [(2, .mptr 0 0), (3, .mptr 1 0), (5, .bool v16), (6, .sl (v18.1.map cS)), (7, .int .i64 v18.2), (8, .str v20.1), (9, .int .i64 v20.2), (31, .bool v22)] [(zGr.d a1), (zGr.d b2)] ?_ ?_
   ·simp [g24, g29, g45, g24x, g29x, g45x]
    have r104 := zAR fuel a1 v22 q23
    try simp [g24, g29, g45, g24x, g29x, g45x] at r104
    refine zAA r104 (by simp) rfl ?_
    simp [g24, g29, g45, g24x, g29x, g45x]
   refine WL.cut 6 92 0 [(2, .mptr 0 0), (3, .mptr 1 0), (5, .bool v16), (6, .sl (v18.1.map cS)), (7, .int .i64 v18.2), (8, .str v20.1), (9, .int .i64 v20.2), (34, .bool (!(eqB v22 v16))), (37, .bool v27)] [(zGr.d a1), (zGr.d b2)] ?_ ?_
   ·simp [g24, g29, g45, g24x, g29x, g45x]
    have r105 := zAh fuel a1 b2 v27 q28
    try simp [g24, g29, g45, g24x, g29x, g45x] at r105
    refine zAA r105 (by simp) rfl ?_
    simp [g24, g29, g45, g24x, g29x, g45x]
   refine WL.last ?_
   simp [g24, g29, g45, g24x, g29x, g45x]
  have g47 := notF g45
  obtain ⟨v48, q49, q51⟩ := bs q51
  obtain rfl := oi q51
  have g24x := g24
  try simp only [g29, g45] at g24x
  have g29x := g29
  try simp only [g24, g45] at g29x
  have g45x := g45
  try simp only [g24, g29] at g45x
  refine zA3 <| WL.cut 2 92 0 [(2, .mptr 0 0), (3, .mptr 1 0), (5, .bool v16), (6, .sl (v18.1.map cS)), (7, .int .i64 v18.2), (8, .str v20.1), (9, .int .i64 v20.2), (31, .bool v22)] [(zGr.d a1), (zGr.d b2)] ?_ ?_
  ·simp [g24, g29, g45, g24x, g29x, g45x]
   have r106 := zAR fuel a1 v22 q23
   try simp [g24, g29, g45, g24x, g29x, g45x] at r106
   refine zAA r106 (by simp) rfl ?_
   simp [g24, g29, g45, g24x, g29x, g45x]
  refine WL.cut 6 92 0 [(2, .mptr 0 0), (3, .mptr 1 0), (5, .bool v16), (6, .sl (v18.1.map cS)), (7, .int .i64 v18.2), (8, .str v20.1), (9, .int .i64 v20.2), (34, .bool (!(eqB v22 v16))), (37, .bool v27)] [(zGr.d a1), (zGr.d b2)] ?_ ?_
  ·simp [g24, g29, g45, g24x, g29x, g45x]
   have r107 := zAh fuel a1 b2 v27 q28
   try simp [g24, g29, g45, g24x, g29x, g45x] at r107
   refine zAA r107 (by simp) rfl ?_
   simp [g24, g29, g45, g24x, g29x, g45x]
  refine WL.cut 16 92 0 [(2, .mptr 0 0), (5, .bool v16), (6, .sl (v18.1.map cS)), (7, .int .i64 v18.2), (8, .str v20.1), (9, .int .i64 v20.2), (50, .bool (!(eqB v27 false))), (53, .bool v48)] [(zGr.d a1), (zGr.d b2)] ?_ ?_
  ·simp [g24, g29, g45, g24x, g29x, g45x]
   have r108 := zAh fuel a1 a1 v48 q49
   try simp [g24, g29, g45, g24x, g29x, g45x] at r108
   refine zAA r108 (by simp) rfl ?_
   simp [g24, g29, g45, g24x, g29x, g45x]
  refine WL.last ?_
  simp [g24, g29, g45, g24x, g29x, g45x]
 refine spc h rfl (fun g52 h => ?_) fun g52 h => ?_
 ·refine cutA 92 0 [(4, .bool false)] [(zGr.d a1), (zGr.d b2)] <| zAF <| zAL ?_
  obtain rfl := oi h
  simp
 refine zAK <| zAe <| zAH <| cutA 92 0 [(2, .mptr 0 0), (6, .sl (v18.1.map cS)), (7, .int .i64 v18.2), (8, .str v20.1), (9, .int .i64 v20.2), (58, .bool (!v16))] [(zGr.d a1), (zGr.d b2)] <| spc h rfl (fun g53 h => ?_) fun g53 h => ?_
 ·have g54 := notT g53
  refine cut 92 0 [(4, .bool ((eqI v18.2 1) && ((eqI (v18.1.length : Int) 0) && ((eqI v20.2 1) && (eqS v20.1 ([] : List UInt8))))))] [(zGr.d a1), (zGr.d b2)] ?_ ?_
  ·rcases tf (eqI v18.2 1) with g55 | g55
   ·have c56 := eqT g55
    rcases tf (eqI (v18.1.length : Int) 0) with g57 | g57
    ·have c58 := eqT g57
     rcases tf (eqI v20.2 1) with g59 | g59
     ·have c60 := eqT g59
      refine st ?_
      simp [g55, g57, g59]
     have c61 := eqF g59
     refine st ?_
     simp [g55, g57, g59]
    have c62 := eqF g57
    refine st ?_
    simp [g55, g57]
   have c63 := eqF g55
   refine st ?_
   simp [g55]
  refine zAF <| zAL ?_
  obtain rfl := oi h
  simp
 have g64 := notF g53
 refine zAK <| zAe ?_
 obtain ⟨b78, q79, h⟩ := bs h
 refine cut 92 0 [(4, .bool b78)] [(zGr.d a1), (zGr.d b2)] ?_ ?_
 ·rcases sp q79 with ⟨g65, q79⟩ | ⟨g65, q79⟩
  ·have c66 := eqT g65
   obtain ⟨v67, q68, q79⟩ := bs q79
   obtain ⟨v69, q70, q79⟩ := bs q79
   rcases sp q79 with ⟨g71, q79⟩ | ⟨g71, q79⟩
   ·rcases sp q79 with ⟨g72, q79⟩ | ⟨g72, q79⟩
    ·have c73 := eqT g72
     obtain ⟨v74, q75, q79⟩ := bs q79
     obtain rfl := oi q79
     have g65x := g65
     try simp only [g71, g72] at g65x
     have g71x := g71
     try simp only [g65, g72] at g71x
     have g72x := g72
     try simp only [g65, g71] at g72x
     refine zA3 <| WL.cut 6 92 0 [(2, .mptr 0 0), (8, .str v20.1), (9, .int .i64 v20.2), (76, .bool (eqI v18.2 0)), (77, .sl (v18.1.map cS)), (79, .sl (v67.map cS))] [(zGr.d a1), (zGr.d b2)] ?_ ?_
     ·simp [g65, g71, g72, g65x, g71x, g72x]
      have r80 := zCl fuel a1 v67 q68
      try simp [g65, g71, g72, g65x, g71x, g72x] at r80
      refine zAA r80 (by simp) rfl ?_
      simp [g65, g71, g72, g65x, g71x, g72x]
     refine WL.cut 1 92 0 [(2, .mptr 0 0), (8, .str v20.1), (9, .int .i64 v20.2), (76, .bool (eqI v18.2 0)), (80, .bool v69)] [(zGr.d a1), (zGr.d b2)] ?_ ?_
     ·simp [g65, g71, g72, g65x, g71x, g72x]
      have r81 := zBR fuel v18.1 v67 v69 q70
      try simp [g65, g71, g72, g65x, g71x, g72x] at r81
      refine zAA r81 (by simp) rfl ?_
      simp [g65, g71, g72, g65x, g71x, g72x]
     refine WL.cut 9 92 0 [(86, .bool (eqI v20.2 0)), (87, .str v20.1), (89, .str v74)] [(zGr.d a1), (zGr.d b2)] ?_ ?_
     ·simp [g65, g71, g72, g65x, g71x, g72x]
      have r82 := ref20_Text_ok fuel a1 v74 q75
      try simp [g65, g71, g72, g65x, g71x, g72x] at r82
      refine zAA r82 (by simp) rfl ?_
      simp [g65, g71, g72, g65x, g71x, g72x]
     refine WL.last ?_
     simp [g65, g71, g72, g65x, g71x, g72x]
    have c76 := eqF g72
    obtain rfl := oi q79
    refine st ?_
    simp [g65, g71, g72]
    have r83 := zCl fuel a1 v67 q68
    try simp [g65, g71, g72] at r83
    refine zAA r83 (by simp) rfl ?_
    simp [g65, g71, g72]
    have r84 := zBR fuel v18.1 v67 v69 q70
    try simp [g65, g71, g72] at r84
    refine zAA r84 (by simp) rfl ?_
    simp [g65, g71, g72]
   obtain rfl := oi q79
   refine st ?_
   simp [g65, g71]
   have r85 := zCl fuel a1 v67 q68
   try simp [g65, g71] at r85
   refine zAA r85 (by simp) rfl ?_
   simp [g65, g71]
   have r86 := zBR fuel v18.1 v67 v69 q70
   try simp [g65, g71] at r86
   refine zAA r86 (by simp) rfl ?_
   simp [g65, g71]
  have c77 := eqF g65
  obtain rfl := oi q79
  refine st ?_
  simp [g65]
 refine zAF ?_
 obtain rfl := oi h
 simp
theorem zAW {α β : Type} (a : α) (f : α → Option β) : (some a).bind f = f a := Eq.trans (Option.bind_some a f) rfl
theorem chk64 {n : Int} (h1 : -9223372036854775808 ≤ n) (h2 : n ≤ 9223372036854775807) : chk .i64 n = some n := by rw [chk, if_pos]; exact ⟨h1, h2⟩
theorem zGm {α : Type} {b : Nat} {x y : List α} (h : 0 < b) (h2 : (x.length + y.length) * b ≤ 140737488355328) : app b x y = some (x ++ y) := by rw [app, if_pos ⟨h, h2⟩]
theorem cat1 {x y : List UInt8} (h : x.length + y.length ≤ 1152921504606846976) : cat x y = some (x ++ y) := by rw [cat, if_pos h]
theorem subT {α : Type} (s : List α) (n : Nat) (h : n ≤ s.length) : subC s 0 (n : Int) = some (s.take n) := by
 rw [subC, if_pos ⟨by omega, by omega, by omega⟩]
 simp [sub]
theorem ltN {i n : Nat} (h : ¬ i < n) : ¬ ltI (i : Int) (n : Int) = true := fun h' => by have := ltT h'; omega
theorem ltP {i n : Nat} (h : i < n) : ltI (i : Int) (n : Int) = true := decide_eq_true (by omega)
theorem zE4 (P : UInt8 → Bool) (h : (List.range 256).all (fun n => P (UInt8.ofNat n)) = true) (c : UInt8) : P c = true := by
 have := List.all_eq_true.1 h c.toNat (List.mem_range.2 c.toNat_lt)
 simpa using this
def smB (c : UInt8) : Bool := decide (97 ≤ c.toNat) && decide (c.toNat ≤ 122)
def caB (c : UInt8) : Bool := decide (65 ≤ c.toNat) && decide (c.toNat ≤ 90)
def inU (c : UInt8) : Bool := smB c || caB c || (decide (48 ≤ c.toNat) && decide (c.toNat ≤ 57)) || decide (c.toNat = 95)
def nm (p : UInt8 → Bool) : List UInt8 → Bool
 | [] => false
 | c :: s => decide ((c :: s).length ≤ 24) && (p c && (c :: s).all inU)
theorem nm_cons (p : UInt8 → Bool) (c : UInt8) (s : List UInt8) : nm p (c :: s) = (decide ((c :: s).length ≤ 24) && (p c && (c :: s).all inU)) := rfl
theorem of_M (c : UInt8) : ∃ k, zCL c = some k ∧ ((eqI k 0 || eqI k 5) = !inU c) ∧ (eqI k 2 = caB c) ∧ (eqI k 1 = smB c) := by
 have h := zE4 (fun c => match zCL c with | some k => ((eqI k 0 || eqI k 5) == !inU c) && ((eqI k 2 == caB c) && (eqI k 1 == smB c)) | none => false) (by kernel_rfl) c
 cases hk : zCL c with
 | none => rw [hk] at h; cases h
 | some k =>
  rw [hk] at h
  simp only [Bool.and_eq_true, beq_iff_eq] at h
  exact ⟨k, rfl, h.1, h.2.1, h.2.2⟩
theorem Inner_M (c : UInt8) : zBq c = some (inU c) := by
 have h := zE4 (fun c => match zBq c with | some b => b == inU c | none => false) (by kernel_rfl) c
 cases hk : zBq c with
 | none => rw [hk] at h; cases h
 | some k => rw [hk] at h; rw [beq_iff_eq] at h; rw [h]
theorem Capital_M (c : UInt8) : zBB c = some (caB c) := by
 have h := zE4 (fun c => match zBB c with | some b => b == caB c | none => false) (by kernel_rfl) c
 cases hk : zBB c with
 | none => rw [hk] at h; cases h
 | some k => rw [hk] at h; rw [beq_iff_eq] at h; rw [h]
theorem Small_M (c : UInt8) : zBU c = some (smB c) := by
 have h := zE4 (fun c => match zBU c with | some b => b == smB c | none => false) (by kernel_rfl) c
 cases hk : zBU c with
 | none => rw [hk] at h; cases h
 | some k => rw [hk] at h; rw [beq_iff_eq] at h; rw [h]
theorem name_loop (l : List UInt8) : ∀ (n i k : Nat), i + n = l.length → n + 1 ≤ k → zA2 l k i = some (if (l.drop i).all inU = true then .inr () else .inl false) := by
 intro n
 induction n with
 | zero =>
  intro i k hi hk
  obtain ⟨g, rfl⟩ : ∃ g, k = g + 1 := ⟨k - 1, by omega⟩
  rw [zA2, if_neg (ltN (by omega)), List.drop_eq_nil_of_le (by omega)]
  rfl
 | succ n ih =>
  intro i k hi hk
  obtain ⟨g, rfl⟩ : ∃ g, k = g + 1 := ⟨k - 1, by omega⟩
  have hx : l[i]? = some l[i] := List.getElem?_eq_getElem (by omega)
  rw [zA2, if_pos (ltP (by omega)), hx, List.drop_eq_getElem_cons (by omega), List.all_cons]
  generalize l[i] = c
  obtain ⟨z, z1, z2, _⟩ := of_M c
  simp only [zAW, z1, z2]
  cases inU c
  ·rfl
  ·simp only [Bool.not_true, Bool.false_eq_true, if_false, Bool.true_and]
   exact ih (i + 1) g (by omega) (by omega)
theorem name_M (s : List UInt8) (f : Int) (p : UInt8 → Bool) (hp : ∀ c k, zCL c = some k → eqI k f = p c) {fuel : Nat} (hf : 30 ≤ fuel) : zBV fuel s f = some (nm p s) := by
 rw [zBV]
 match s with
 | [] => rfl
 | c :: s =>
  rw [show eqS (c :: s) [] = false from decide_eq_false (by simp)]
  simp only [Bool.false_eq_true, if_false]
  by_cases hl : (c :: s).length ≤ 24
  ·rw [show ltI 24 ((c :: s).length : Int) = false from decide_eq_false (by omega)]
   obtain ⟨z, z1, _⟩ := of_M c
   simp only [Bool.false_eq_true, if_false, List.getElem?_cons_zero, zAW, z1, hp c z z1]
   have hu : nm p (c :: s) = (p c && (c :: s).all inU) := by rw [nm_cons, decide_eq_true hl, Bool.true_and]
   rw [hu]
   cases p c
   ·rfl
   ·simp only [Bool.not_true, Bool.false_eq_true, if_false, Bool.true_and]
    rw [bytesC, if_pos (by omega)]
    simp only [zAW]
    rw [name_loop (c :: s) (c :: s).length 0 fuel (by omega) (by omega), List.drop_zero]
    cases (c :: s).all inU <;> rfl
  ·rw [show ltI 24 ((c :: s).length : Int) = true from decide_eq_true (by omega)]
   have hu : nm p (c :: s) = false := by rw [nm_cons, decide_eq_false hl, Bool.false_and]
   rw [hu]; rfl
theorem name1 (s : List UInt8) {fuel : Nat} (hf : 30 ≤ fuel) : zBV fuel s 1 = some (nm smB s) := name_M s 1 smB (fun c k h => by
 obtain ⟨z, z1, _, _, z4⟩ := of_M c
 rw [z1] at h; cases h; exact z4) hf
theorem name2 (s : List UInt8) {fuel : Nat} (hf : 30 ≤ fuel) : zBV fuel s 2 = some (nm caB s) := name_M s 2 caB (fun c k h => by
 obtain ⟨z, z1, _, z3, _⟩ := of_M c
 rw [z1] at h; cases h; exact z3) hf
theorem inner_loop (l : List UInt8) : ∀ (n i k : Nat), i + n = l.length → n + 1 ≤ k → zAu l k i = some (if (l.drop i).all inU = true then .inr () else .inl false) := by
 intro n
 induction n with
 | zero =>
  intro i k hi hk
  obtain ⟨g, rfl⟩ : ∃ g, k = g + 1 := ⟨k - 1, by omega⟩
  rw [zAu, if_neg (ltN (by omega)), List.drop_eq_nil_of_le (by omega)]
  rfl
 | succ n ih =>
  intro i k hi hk
  obtain ⟨g, rfl⟩ : ∃ g, k = g + 1 := ⟨k - 1, by omega⟩
  have hx : l[i]? = some l[i] := List.getElem?_eq_getElem (by omega)
  rw [zAu, if_pos (ltP (by omega)), hx, List.drop_eq_getElem_cons (by omega), List.all_cons]
  generalize l[i] = c
  simp only [zAW, Inner_M]
  cases inU c
  ·rfl
  ·simp only [Bool.not_true, Bool.false_eq_true, if_false, Bool.true_and]
   exact ih (i + 1) g (by omega) (by omega)
theorem inner_M (l : List UInt8) {fuel : Nat} (hf : l.length + 1 ≤ fuel) : zCK fuel l = some (l.all inU) := by
 rw [zCK, inner_loop l l.length 0 fuel (by omega) hf, List.drop_zero]
 cases l.all inU <;> rfl
theorem Word_M (s : List UInt8) {fuel : Nat} (hf : 30 ≤ fuel) : zCD fuel s = some (decide (1 ≤ s.length) && (decide (s.length ≤ 24) && s.all inU)) := by
 rw [zCD]
 by_cases h1 : 1 ≤ s.length
 ·rw [show leI 1 (s.length : Int) = true from decide_eq_true (by omega), decide_eq_true h1]
  by_cases h2 : s.length ≤ 24
  ·rw [show leI (s.length : Int) 24 = true from decide_eq_true (by omega), decide_eq_true h2, inner_M s (by omega)]; rfl
  ·rw [show leI (s.length : Int) 24 = false from decide_eq_false (by omega), decide_eq_false h2]; rfl
 ·rw [show leI 1 (s.length : Int) = false from decide_eq_false (by omega), decide_eq_false h1]; rfl
theorem nm_word (p : UInt8 → Bool) (c : UInt8) (s : List UInt8) : nm p (c :: s) = ((decide (1 ≤ (c :: s).length) && (decide ((c :: s).length ≤ 24) && (c :: s).all inU)) && p c) := by
 rw [nm_cons, decide_eq_true (show 1 ≤ (c :: s).length by simp)]
 cases decide ((c :: s).length ≤ 24) <;> cases p c <;> cases (c :: s).all inU <;> rfl
theorem IsUpper_M (s : List UInt8) {fuel : Nat} (hf : 30 ≤ fuel) : zBd fuel s = some (nm caB s) := by rw [zBd, name2 s hf]; rfl
theorem Upper_M (s : List UInt8) {fuel : Nat} (hf : 30 ≤ fuel) : zBb fuel s = some (nm caB s) := by
 rw [zBb, Word_M s hf]
 match s with
 | [] => rfl
 | c :: s =>
  rw [nm_word]
  simp only [zAW]
  cases (decide (1 ≤ (c :: s).length) && (decide ((c :: s).length ≤ 24) && (c :: s).all inU))
  ·rfl
  ·simp only [if_true, List.getElem?_cons_zero, zAW, Capital_M, Bool.true_and]
def KEYS : List (List UInt8) := (zCf).getD []
theorem KEYS_M : zCf = some KEYS := by kernel_rfl
theorem KEYS_len : KEYS.length = 31 := by kernel_rfl
def kw (s : List UInt8) : Bool := KEYS.any (fun w => decide (w = s))
theorem index_loop (l : List (List UInt8)) (v : List UInt8) : ∀ (n i k : Nat), i + n = l.length → n + 1 ≤ k → ∃ o, zAS l v k i = some o ∧ (((l.drop i).any (fun w => decide (w = v)) = true ∧ ∃ j : Nat, o = .inl (j : Int)) ∨ ((l.drop i).any (fun w => decide (w = v)) = false ∧ o = .inr ())) := by
 intro n
 induction n with
 | zero =>
  intro i k hi hk
  obtain ⟨g, rfl⟩ : ∃ g, k = g + 1 := ⟨k - 1, by omega⟩
  rw [zAS, if_neg (ltN (by omega)), List.drop_eq_nil_of_le (by omega)]
  exact ⟨_, rfl, .inr ⟨rfl, rfl⟩⟩
 | succ n ih =>
  intro i k hi hk
  obtain ⟨g, rfl⟩ : ∃ g, k = g + 1 := ⟨k - 1, by omega⟩
  have hx : l[i]? = some l[i] := List.getElem?_eq_getElem (by omega)
  rw [zAS, if_pos (ltP (by omega)), hx, List.drop_eq_getElem_cons (by omega), List.any_cons]
  generalize l[i] = c
  simp only [zAW]
  by_cases h : c = v
  ·rw [if_pos (show eqS v c = true from decide_eq_true h.symm), decide_eq_true h]
   exact ⟨_, rfl, .inl ⟨rfl, i, rfl⟩⟩
  ·rw [if_neg (show ¬ eqS v c = true from fun e => h (of_decide_eq_true e).symm), decide_eq_false h, Bool.false_or]
   exact ih (i + 1) g (by omega) (by omega)
theorem contains_M (l : List (List UInt8)) (v : List UInt8) {fuel : Nat} (hf : l.length + 1 ≤ fuel) : zAb fuel l v = some (l.any (fun w => decide (w = v))) := by
 obtain ⟨o, o1, o2⟩ := index_loop l v l.length 0 fuel (by omega) hf
 rw [zAb, zBC, o1]
 rw [List.drop_zero] at o2
 rcases o2 with ⟨h, j, rfl⟩ | ⟨h, rfl⟩
 ·rw [h]
  simp only [zAW, Sum.elim_inl]
  rw [show leI 0 (j : Int) = true from decide_eq_true (by omega)]
 ·rw [h]; rfl
theorem word_M (s : List UInt8) {fuel : Nat} (hf : 40 ≤ fuel) : zCg fuel s = some (kw s) := by
 have hF : ∀ t, zBE t = some KEYS → ((zBE t).bind fun v2 => (zAb fuel v2 s).bind fun v4 => some v4) = some (kw s) := fun t ht => by
  rw [ht]
  simp only [zAW]
  rw [contains_M KEYS s (by rw [KEYS_len]; omega)]; rfl
 rw [zCg]
 exact hF _ (by kernel_rfl)
def loS (s : List UInt8) : Bool := nm smB s && !kw s
theorem IsLower_M (s : List UInt8) {fuel : Nat} (hf : 40 ≤ fuel) : zBe fuel s = some (loS s) := by
 rw [zBe, name1 s (by omega)]
 unfold loS
 simp only [zAW]
 cases nm smB s
 ·rfl
 ·rw [if_pos rfl, word_M s hf]; rfl
theorem find_loop (l : List (List UInt8)) (v : List UInt8) : ∀ (n i k : Nat), i + n = l.length → n + 1 ≤ k → ∃ o, zA0 l v k i = some o ∧ (((l.drop i).any (fun w => decide (w = v)) = true ∧ ∃ j : Nat, o = .inl (j : Int)) ∨ ((l.drop i).any (fun w => decide (w = v)) = false ∧ o = .inr ())) := by
 intro n
 induction n with
 | zero =>
  intro i k hi hk
  obtain ⟨g, rfl⟩ : ∃ g, k = g + 1 := ⟨k - 1, by omega⟩
  rw [zA0, if_neg (ltN (by omega)), List.drop_eq_nil_of_le (by omega)]
  exact ⟨_, rfl, .inr ⟨rfl, rfl⟩⟩
 | succ n ih =>
  intro i k hi hk
  obtain ⟨g, rfl⟩ : ∃ g, k = g + 1 := ⟨k - 1, by omega⟩
  have hx : l[i]? = some l[i] := List.getElem?_eq_getElem (by omega)
  rw [zA0, if_pos (ltP (by omega)), hx, List.drop_eq_getElem_cons (by omega), List.any_cons]
  generalize l[i] = c
  simp only [zAW]
  by_cases h : c = v
  ·rw [if_pos (show eqS c v = true from decide_eq_true h), decide_eq_true h]
   exact ⟨_, rfl, .inl ⟨rfl, i, rfl⟩⟩
  ·rw [if_neg (show ¬ eqS c v = true from fun e => h (of_decide_eq_true e)), decide_eq_false h, Bool.false_or]
   exact ih (i + 1) g (by omega) (by omega)
theorem Lower_M (s : List UInt8) {fuel : Nat} (hf : 40 ≤ fuel) : zBc fuel s = some (loS s) := by
 rw [zBc, Word_M s (by omega)]
 unfold loS
 match s with
 | [] => rfl
 | c :: s =>
  rw [nm_word]
  simp only [zAW]
  cases (decide (1 ≤ (c :: s).length) && (decide ((c :: s).length ≤ 24) && (c :: s).all inU))
  ·rfl
  ·simp only [if_true, List.getElem?_cons_zero, zAW, Small_M, Bool.true_and]
   cases smB c
   ·rfl
   ·rw [if_pos rfl, KEYS_M]
    simp only [zAW, Bool.true_and]
    obtain ⟨o, o1, o2⟩ := find_loop KEYS (c :: s) KEYS.length 0 fuel (by omega) (by rw [KEYS_len]; omega)
    rw [zCE, o1]
    rw [List.drop_zero] at o2
    rcases o2 with ⟨h, j, rfl⟩ | ⟨h, rfl⟩
    ·have : kw (c :: s) = true := h
     rw [this]
     simp only [zAW, Sum.elim_inl]
     rw [show ltI (j : Int) 0 = false from decide_eq_false (by omega)]; rfl
    ·have : kw (c :: s) = false := h
     rw [this]; rfl
theorem dec_len (m : Nat) (hm : m < 10000000000000000) : (Lib.decDigits m).length ≤ 16 := by
 rw [Lib.decDigits_length]
 have h3 : ∀ j u, u < 10 ^ (j + 1) → Lib.nDigits u ≤ j + 1 := by
  intro j
  induction j with
  | zero => intro u hu; rw [Lib.nDigits_small (by simpa using hu)]; omega
  | succ j ihj =>
   intro u hu
   by_cases hu2 : u < 10
   ·rw [Lib.nDigits_small hu2]; omega
   ·have := ihj (u / 10) (by have : 10 ^ (j + 1 + 1) = 10 ^ (j + 1) * 10 := Nat.pow_succ ..; omega)
    rw [Lib.nDigits_big hu2]; omega
 exact h3 15 m (by omega)
theorem itoa_M (n : Nat) (h : n < 10000000000000000) : zA8 (n : Int) = some (Lib.decDigits n) := by
 have := dec_len n h
 have e : Lib.itoa (n : Int) = Lib.decDigits n := by unfold Lib.itoa; rw [if_neg (by omega)]; rfl
 rw [zA8, e, if_pos (by omega)]
theorem Decimal_M : ∀ (k n : Nat), n < 10 ^ (k + 1) → n < 10000000000000000 → ∀ fuel, k + 1 ≤ fuel → zAf fuel (n : Int) = some (Lib.decDigits n) := by
 intro k
 induction k with
 | zero =>
  intro n h h2 fuel hf
  obtain ⟨g, rfl⟩ : ∃ g, fuel = g + 1 := ⟨fuel - 1, by omega⟩
  rw [zAf, if_neg (show ¬ ltI (n : Int) 0 = true from fun h' => by have := ltT h'; omega), if_pos (show ltI (n : Int) 10 = true from decide_eq_true (by omega)), Lib.decDigits, dif_pos (by omega), show (48 + (n : Int)).toNat = 48 + n by omega]
 | succ k ih =>
  intro n h h2 fuel hf
  obtain ⟨g, rfl⟩ : ∃ g, fuel = g + 1 := ⟨fuel - 1, by omega⟩
  rw [zAf, if_neg (show ¬ ltI (n : Int) 0 = true from fun h' => by have := ltT h'; omega)]
  by_cases h9 : n < 10
  ·rw [if_pos (show ltI (n : Int) 10 = true from decide_eq_true (by omega)), Lib.decDigits, dif_pos h9, show (48 + (n : Int)).toNat = 48 + n by omega]
  ·have e1 : Int.tdiv (n : Int) 10 = ((n / 10 : Nat) : Int) := by rw [Int.tdiv_eq_ediv_of_nonneg (by omega)]; omega
   have e2 : Int.tmod (n : Int) 10 = ((n % 10 : Nat) : Int) := by rw [Int.tmod_eq_emod_of_nonneg (by omega)]; omega
   have hp : 10 ^ (k + 1 + 1) = 10 ^ (k + 1) * 10 := Nat.pow_succ ..
   rw [if_neg (show ¬ ltI (n : Int) 10 = true from fun h' => h9 (by have := ltT h'; omega)), e1, e2, chk64 (by omega) (by omega), zAW, ih (n / 10) (by omega) (by omega) g (by omega), zAW,
    show (48 + ((n % 10 : Nat) : Int)).toNat = 48 + n % 10 by omega, cat1 (by have := dec_len (n / 10) (by omega); simp; omega), zAW]
   conv => rhs; rw [Lib.decDigits, dif_neg (by omega)]
def nds (p : zGr) : Nat := 1 + (p.L.map nds).sum
decreasing_by all_goals (cases p; simp only [zGr.mk.sizeOf_spec]; have := List.sizeOf_lt_of_mem ‹_›; simp only at this; omega)
theorem zFq (p : zGr) : nds p = 1 + (p.L.map nds).sum := by rw [nds]
def wt (p : zGr) : Nat := 100 + p.S.length + p.L.length + (p.L.map wt).sum
decreasing_by all_goals (cases p; simp only [zGr.mk.sizeOf_spec]; have := List.sizeOf_lt_of_mem ‹_›; simp only at this; omega)
theorem wt_eq (p : zGr) : wt p = 100 + p.S.length + p.L.length + (p.L.map wt).sum := by rw [wt]
theorem le_sum {α : Type} (f : α → Nat) : ∀ {l : List α} {x : α}, x ∈ l → f x ≤ (l.map f).sum
 | y :: l, x, h => by
  rw [List.map_cons, List.sum_cons]
  rcases List.mem_cons.1 h with rfl | h
  ·omega
  ·have := le_sum f h; omega
theorem sum_drop {α : Type} (f : α → Nat) (l : List α) (i : Nat) (h : i < l.length) : ((l.drop i).map f).sum = f l[i] + ((l.drop (i + 1)).map f).sum := by
 rw [List.drop_eq_getElem_cons h, List.map_cons, List.sum_cons]
theorem sum_le {α : Type} {f g : α → Nat} : ∀ {l : List α}, (∀ x, x ∈ l → f x ≤ g x) → (l.map f).sum ≤ (l.map g).sum
 | [], _ => by simp
 | y :: l, h => by
  simp only [List.map_cons, List.sum_cons]
  have h1 := h y (List.mem_cons_self ..)
  have h2 := sum_le (l := l) fun x hx => h x (List.mem_cons_of_mem _ hx)
  omega
theorem zE5 {p x : zGr} (h : x ∈ p.L) : wt x + 100 + p.S.length + p.L.length ≤ wt p := by
 rw [wt_eq p]
 have := le_sum wt h
 omega
theorem zEo {p x : zGr} (h : x ∈ p.L) : nds x + 1 ≤ nds p := by
 rw [zFq p]
 have := le_sum nds h
 omega
theorem zEU (p : zGr) : 100 + p.S.length + p.L.length ≤ wt p := by rw [wt_eq]; omega
theorem nds_pos (p : zGr) : 1 ≤ nds p := by rw [zFq]; omega
theorem zCy {T : zGr → Prop} (h : ∀ p, (∀ x, x ∈ p.L → T x) → T p) : ∀ p, T p := by
 have key : ∀ n p, wt p ≤ n → T p := by
  intro n
  induction n with
  | zero => intro p hp; have := zEU p; omega
  | succ n ih => exact fun p hp => h p fun x hx => ih x (by have := zE5 hx; omega)
 exact fun p => key (wt p) p (Nat.le_refl _)
theorem nds_wt (p : zGr) : nds p ≤ wt p := by
 induction p using zCy with
 | h p ih =>
  rw [zFq, wt_eq]
  have := sum_le (f := nds) (g := wt) ih
  omega
theorem big_loop (p : zGr) (d : Int) (g : Nat) (hd : 0 ≤ d) (hd2 : d ≤ 50) (ih : ∀ x, x ∈ p.L → ∀ c : Int, 0 ≤ c → c ≤ 200 → ∃ v : Int, zAn g x (d + 1) c = some v ∧ 0 ≤ v ∧ (v ≤ 200 → v = c + nds x)) :
  ∀ (n i k : Nat) (a : Int), i + n = p.L.length → n + 1 ≤ k → 0 ≤ a → ∃ v : Int, zAv (zAn g) p d k a i = some v ∧ 0 ≤ v ∧ (v ≤ 200 → v = a + ((p.L.drop i).map nds).sum) := by
 intro n
 induction n with
 | zero =>
  intro i k a hi hk ha
  obtain ⟨k, rfl⟩ : ∃ q, k = q + 1 := ⟨k - 1, by omega⟩
  rw [zAv, show ltI (i : Int) (p.L.length : Int) = false from decide_eq_false (by omega), List.drop_eq_nil_of_le (by omega)]
  exact ⟨a, rfl, ha, fun _ => by simp⟩
 | succ n ihn =>
  intro i k a hi hk ha
  obtain ⟨k, rfl⟩ : ∃ q, k = q + 1 := ⟨k - 1, by omega⟩
  have hx : p.L[i]? = some p.L[i] := List.getElem?_eq_getElem (by omega)
  rw [zAv, show ltI (i : Int) (p.L.length : Int) = true from decide_eq_true (by omega), sum_drop nds p.L i (by omega)]
  by_cases h2 : a ≤ 200
  ·rw [show leI a 200 = true from decide_eq_true h2, Bool.and_self, if_pos rfl, hx, zAW, chk64 (by omega) (by omega), zAW]
   obtain ⟨v, h3, h4, h5⟩ := ih p.L[i] (List.getElem_mem _) a ha h2
   rw [h3, zAW]
   obtain ⟨u, h6, h7, h8⟩ := ihn (i + 1) k v (by omega) (by omega) h4
   refine ⟨u, h6, h7, fun hu => ?_⟩
   have h9 := h8 hu
   have : v ≤ 200 := by omega
   rw [h9, h5 this]; omega
  ·rw [show leI a 200 = false from decide_eq_false h2]
   exact ⟨a, rfl, ha, fun h => absurd h h2⟩
theorem big_M (p : zGr) : ∀ (fuel : Nat) (d c : Int), wt p ≤ fuel → 0 ≤ d → d ≤ 51 → 0 ≤ c → c ≤ 200 → ∃ v : Int, zAn fuel p d c = some v ∧ 0 ≤ v ∧ (v ≤ 200 → v = c + nds p) := by
 induction p using zCy with
 | h p ih =>
  intro fuel d c hf hd hd2 hc hc2
  have hw := zEU p
  obtain ⟨g, rfl⟩ : ∃ g, fuel = g + 1 := ⟨fuel - 1, by omega⟩
  rw [zAn, chk64 (by omega) (by omega), zAW]
  split
  ·obtain ⟨k, rfl⟩ : ∃ k, g = k + 1 := ⟨g - 1, by omega⟩
   rw [zBF, show leI (1000 : Int) 200 = false from rfl, Bool.and_false]
   exact ⟨1000, rfl, by omega, fun h => by omega⟩
  ·rename_i hn
   have hd3 : d ≤ 50 := by
    rw [Bool.or_eq_true] at hn
    have : ¬ ltI 50 d = true := fun h => hn (.inl h)
    have := ltF (by simpa using this : ltI 50 d = false)
    omega
   obtain ⟨v, h1, h2, h3⟩ := big_loop p d g hd hd3 (fun x hx c hc hc2 => ih x hx g (d + 1) c (by have := zE5 hx; omega) (by omega) (by omega) hc hc2) p.L.length 0 g (c + 1) (by omega) (by omega) (by omega)
   rw [h1, zAW]
   refine ⟨v, rfl, h2, fun hv => ?_⟩
   rw [h3 hv, zFq, List.drop_zero]; omega
theorem Big_M (p : zGr) {fuel : Nat} (hf : wt p ≤ fuel) : ∃ b, zCT fuel p = some b ∧ (b = false → nds p ≤ 200) := by
 obtain ⟨v, h1, h2, h3⟩ := big_M p fuel 1 0 hf (by omega) (by omega) (by omega) (by omega)
 rw [zCT, h1, zAW]
 refine ⟨_, rfl, fun h => ?_⟩
 have := ltF h
 have := h3 this
 omega
def nodeB (p : zGr) : Bool :=
 if p.Op = 1 then decide (p.L.length = 0) && (decide (p.N = 0) && decide (p.S = []))
 else if p.Op = 2 then decide (p.L.length = 0) && (decide (p.N = 0) && loS p.S)
 else if p.Op = 3 then decide (p.L.length = 0) && (decide (p.S = []) && (decide (-4503599627370496 ≤ p.N) && decide (p.N ≤ 4503599627370496)))
 else if p.Op = 4 then decide (p.L.length ≤ 1) && (decide (p.N = 0) && nm caB p.S)
 else if p.Op = 5 then !decide (p.L.length = 1) && (decide (p.L.length ≤ 9) && (decide (p.N = 0) && decide (p.S = [])))
 else false
theorem lenI (l : List zGr) (k : Nat) : eqI (l.length : Int) (k : Int) = decide (l.length = k) := by
 unfold eqI
 by_cases h : l.length = k
 ·rw [decide_eq_true h, decide_eq_true (by omega)]
 ·rw [decide_eq_false h, decide_eq_false (by omega)]
theorem lenL (l : List zGr) (k : Nat) : leI (l.length : Int) (k : Int) = decide (l.length ≤ k) := by
 unfold leI
 by_cases h : l.length ≤ k
 ·rw [decide_eq_true h, decide_eq_true (by omega)]
 ·rw [decide_eq_false h, decide_eq_false (by omega)]
theorem node_M (p : zGr) {fuel : Nat} (hf : 40 ≤ fuel) : zBy fuel p = some (nodeB p) := by
 have e0 := lenI p.L 0
 have e1 := lenI p.L 1
 have l1 := lenL p.L 1
 have l9 := lenL p.L 9
 rw [zBy]
 unfold nodeB
 rw [IsLower_M p.S hf, IsUpper_M p.S (by omega)]
 rw [show eqI (p.L.length : Int) 0 = decide (p.L.length = 0) from e0, show eqI (p.L.length : Int) 1 = decide (p.L.length = 1) from e1, show leI (p.L.length : Int) 1 = decide (p.L.length ≤ 1) from l1, show leI (p.L.length : Int) 9 = decide (p.L.length ≤ 9) from l9]
 by_cases h1 : p.Op = 1
 ·rw [if_pos (show eqI p.Op 1 = true from decide_eq_true h1), if_pos h1]; rfl
 rw [if_neg (show ¬ eqI p.Op 1 = true from fun h => h1 (eqT h)), if_neg h1]
 by_cases h2 : p.Op = 2
 ·rw [if_pos (show eqI p.Op 2 = true from decide_eq_true h2), if_pos h2]
  by_cases hl : p.L.length = 0
  ·by_cases hN : p.N = 0
   ·simp only [decide_eq_true hl, if_true, show eqI p.N 0 = true from decide_eq_true hN, zAW, decide_eq_true hN, Bool.true_and]
   ·simp only [decide_eq_true hl, if_true, show eqI p.N 0 = false from decide_eq_false hN, zAW, decide_eq_false hN, Bool.true_and, Bool.false_and, Bool.false_eq_true, if_false]
  ·simp only [decide_eq_false hl, zAW, Bool.false_and, Bool.false_eq_true, if_false]
 rw [if_neg (show ¬ eqI p.Op 2 = true from fun h => h2 (eqT h)), if_neg h2]
 by_cases h3 : p.Op = 3
 ·rw [if_pos (show eqI p.Op 3 = true from decide_eq_true h3), if_pos h3]; rfl
 rw [if_neg (show ¬ eqI p.Op 3 = true from fun h => h3 (eqT h)), if_neg h3]
 by_cases h4 : p.Op = 4
 ·rw [if_pos (show eqI p.Op 4 = true from decide_eq_true h4), if_pos h4]
  by_cases hl : p.L.length ≤ 1
  ·by_cases hN : p.N = 0
   ·simp only [decide_eq_true hl, if_true, show eqI p.N 0 = true from decide_eq_true hN, zAW, decide_eq_true hN, Bool.true_and]
   ·simp only [decide_eq_true hl, if_true, show eqI p.N 0 = false from decide_eq_false hN, zAW, decide_eq_false hN, Bool.true_and, Bool.false_and, Bool.false_eq_true, if_false]
  ·simp only [decide_eq_false hl, zAW, Bool.false_and, Bool.false_eq_true, if_false]
 rw [if_neg (show ¬ eqI p.Op 4 = true from fun h => h4 (eqT h)), if_neg h4]
 by_cases h5 : p.Op = 5
 ·rw [if_pos (show eqI p.Op 5 = true from decide_eq_true h5), if_pos h5]; rfl
 rw [if_neg (show ¬ eqI p.Op 5 = true from fun h => h5 (eqT h)), if_neg h5]
theorem rnode_M (p : zGr) {fuel : Nat} (hf : 40 ≤ fuel) : zCe fuel p = some (nodeB p) := by
 have e0 := lenI p.L 0
 have e1 := lenI p.L 1
 have l1 := lenL p.L 1
 have l9 := lenL p.L 9
 rw [zCe]
 unfold nodeB
 rw [Lower_M p.S hf, Upper_M p.S (by omega)]
 rw [show eqI (p.L.length : Int) 0 = decide (p.L.length = 0) from e0, show eqI (p.L.length : Int) 1 = decide (p.L.length = 1) from e1, show leI (p.L.length : Int) 1 = decide (p.L.length ≤ 1) from l1, show leI (p.L.length : Int) 9 = decide (p.L.length ≤ 9) from l9]
 have hnil : nm caB [] = false := rfl
 have hnil2 : loS [] = false := rfl
 by_cases h1 : p.Op = 1
 ·by_cases hN : p.N = 0 <;> by_cases hS : p.S = [] <;> simp [eqI, eqS, leI, h1, hN, hS]
 by_cases h2 : p.Op = 2
 ·by_cases hN : p.N = 0 <;> cases loS p.S <;> simp [eqI, eqS, leI, h1, h2, hN]
 by_cases h3 : p.Op = 3
 ·by_cases hS : p.S = []
  ·by_cases hN : p.N = 0 <;> by_cases q1 : -4503599627370496 ≤ p.N <;> by_cases q2 : p.N ≤ 4503599627370496 <;> simp [eqI, eqS, leI, h1, h2, h3, hN, hS, q1, q2]
  ·by_cases hN : p.N = 0 <;> simp [eqI, eqS, leI, h1, h2, h3, hN, hS]
 by_cases h4 : p.Op = 4
 ·by_cases hN : p.N = 0 <;> cases nm caB p.S <;> simp [eqI, eqS, leI, h1, h2, h3, h4, hN]
 by_cases h5 : p.Op = 5
 ·by_cases hN : p.N = 0 <;> by_cases hS : p.S = [] <;> simp [eqI, eqS, leI, h1, h2, h3, h4, h5, hN, hS]
 ·by_cases hN : p.N = 0 <;> by_cases hS : p.S = [] <;> simp [eqI, eqS, leI, h1, h2, h3, h4, h5, hN, hS]
def nok (p : zGr) : Bool := nodeB p && (p.L.map nok).all id
decreasing_by all_goals (cases p; simp only [zGr.mk.sizeOf_spec]; have := List.sizeOf_lt_of_mem ‹_›; simp only at this; omega)
theorem nok_eq (p : zGr) : nok p = (nodeB p && (p.L.map nok).all id) := by rw [nok]
theorem nok_iff {p : zGr} : nok p = true ↔ nodeB p = true ∧ ∀ x, x ∈ p.L → nok x = true := by
 rw [nok_eq, Bool.and_eq_true, List.all_eq_true]
 exact and_congr_right fun _ => ⟨fun h x hx => h _ (List.mem_map.2 ⟨x, hx, rfl⟩), fun h y hy => by obtain ⟨x, hx, rfl⟩ := List.mem_map.1 hy; exact h x hx⟩
theorem measure_loop (p : zGr) (left d : Int) (g : Nat) (hp : (nds p : Int) ≤ left) (hl : left ≤ 20000) (hd0 : 0 ≤ d) (hd : d + nds p ≤ 401)
  (ih : ∀ x, x ∈ p.L → ∀ (l e : Int), (nds x : Int) ≤ l → l ≤ 20000 → 0 ≤ e → e + nds x ≤ 401 → zAZ g x l e = some (if nok x = true then ((nds x : Int), true) else (0, false))) :
  ∀ (n i k m : Nat), i + n = p.L.length → n + 1 ≤ k → m + ((p.L.drop i).map nds).sum = nds p →
   zAY (zAZ g) p left d k (m : Int) i = some (if ((p.L.drop i).map nok).all id = true then .inr ((nds p : Nat) : Int) else .inl (0, false)) := by
 intro n
 induction n with
 | zero =>
  intro i k m hi hk hm
  obtain ⟨k, rfl⟩ : ∃ q, k = q + 1 := ⟨k - 1, by omega⟩
  rw [List.drop_eq_nil_of_le (by omega)] at hm ⊢
  rw [zAY, if_neg (ltN (by omega))]
  simp only [List.map_nil, List.sum_nil, Nat.add_zero] at hm
  rw [hm]; rfl
 | succ n ihn =>
  intro i k m hi hk hm
  obtain ⟨k, rfl⟩ : ∃ q, k = q + 1 := ⟨k - 1, by omega⟩
  have hx : p.L[i]? = some p.L[i] := List.getElem?_eq_getElem (by omega)
  rw [sum_drop nds p.L i (by omega)] at hm
  have hmem : p.L[i] ∈ p.L := List.getElem_mem _
  have h1 := zEo hmem
  rw [zAY, if_pos (ltP (by omega)), hx, zAW, chk64 (by omega) (by omega), zAW, chk64 (by omega) (by omega), zAW, ih p.L[i] hmem _ _ (by omega) (by omega) (by omega) (by omega), zAW]
  rw [List.drop_eq_getElem_cons (by omega), List.map_cons, List.all_cons]
  cases hn : nok p.L[i] with
  | false => rfl
  | true =>
   simp only [if_true, Bool.not_true, Bool.false_eq_true, if_false, id, Bool.true_and]
   rw [chk64 (by omega) (by omega), zAW]
   have := ihn (i + 1) k (m + nds p.L[i]) (by omega) (by omega) (by omega)
   rw [show (m : Int) + (nds p.L[i] : Int) = ((m + nds p.L[i] : Nat) : Int) by omega, this]
theorem measure_M (p : zGr) : ∀ (fuel : Nat) (left d : Int), wt p ≤ fuel → (nds p : Int) ≤ left → left ≤ 20000 → 0 ≤ d → d + nds p ≤ 401 → zAZ fuel p left d = some (if nok p = true then ((nds p : Int), true) else (0, false)) := by
 induction p using zCy with
 | h p ih =>
  intro fuel left d hf h1 h2 h3 h4
  have hw := zEU p
  have hp := nds_pos p
  obtain ⟨g, rfl⟩ : ∃ g, fuel = g + 1 := ⟨fuel - 1, by omega⟩
  rw [zAZ, if_neg (show ¬ leI left 0 = true from fun h => by have := leT h; omega), if_neg (show ¬ ltI 400 d = true from fun h => by have := ltT h; omega), node_M p (by omega), zAW, zAW, nok_eq]
  cases hn : nodeB p with
  | false => rfl
  | true =>
   have := measure_loop p left d g h1 h2 h3 h4 (fun x hx l e q1 q2 q3 q4 => ih x hx g l e (by have := zE5 hx; omega) q1 q2 q3 q4) p.L.length 0 g 1 (by omega) (by omega) (by rw [List.drop_zero, zFq])
   rw [List.drop_zero] at this
   simp only [Bool.not_true, Bool.false_eq_true, if_false, Bool.true_and]
   rw [show (1 : Int) = ((1 : Nat) : Int) from rfl, this, zAW]
   cases (p.L.map nok).all id <;> rfl
theorem count_loop (p : zGr) (d : Int) (g : Nat) (hd : (nds p : Int) ≤ d) (hd2 : d ≤ 400)
  (ih : ∀ x, x ∈ p.L → ∀ (l e : Int), (nds x : Int) ≤ l → l ≤ 20000 → (nds x : Int) ≤ e → e ≤ 400 → zAy g x l e = some (if nok x = true then l - nds x else -1)) :
  ∀ (n i k : Nat) (l : Int), i + n = p.L.length → n + 1 ≤ k → (((p.L.drop i).map nds).sum : Int) ≤ l → l ≤ 20000 →
   zAj (zAy g) p d k l i = some (if ((p.L.drop i).map nok).all id = true then l - ((p.L.drop i).map nds).sum else -1) := by
 intro n
 induction n with
 | zero =>
  intro i k l hi hk hl hl2
  obtain ⟨k, rfl⟩ : ∃ q, k = q + 1 := ⟨k - 1, by omega⟩
  rw [List.drop_eq_nil_of_le (by omega)]
  rw [zAj, show ltI (i : Int) (p.L.length : Int) = false from decide_eq_false (by omega)]
  simp
 | succ n ihn =>
  intro i k l hi hk hl hl2
  obtain ⟨k, rfl⟩ : ∃ q, k = q + 1 := ⟨k - 1, by omega⟩
  have hx : p.L[i]? = some p.L[i] := List.getElem?_eq_getElem (by omega)
  rw [sum_drop nds p.L i (by omega)] at hl ⊢
  have hmem : p.L[i] ∈ p.L := List.getElem_mem _
  have h1 := zEo hmem
  rw [zAj, show ltI (i : Int) (p.L.length : Int) = true from decide_eq_true (by omega), show leI 0 l = true from decide_eq_true (by omega), Bool.and_self, if_pos rfl, hx, zAW, chk64 (by omega) (by omega), zAW,
   ih p.L[i] hmem _ _ (by omega) hl2 (by omega) (by omega), zAW]
  rw [List.drop_eq_getElem_cons (by omega), List.map_cons, List.all_cons]
  cases hn : nok p.L[i] with
  | false =>
   simp only [Bool.false_eq_true, if_false, id, Bool.false_and]
   obtain ⟨k, rfl⟩ : ∃ q, k = q + 1 := ⟨k - 1, by omega⟩
   rw [zAj, show leI 0 (-1) = false from rfl, Bool.and_false]
   rfl
  | true =>
   simp only [if_true, id, Bool.true_and]
   rw [ihn (i + 1) k _ (by omega) (by omega) (by omega) (by omega)]
   congr 1
   split
   ·omega
   ·rfl
theorem count_M (p : zGr) : ∀ (fuel : Nat) (l e : Int), wt p ≤ fuel → (nds p : Int) ≤ l → l ≤ 20000 → (nds p : Int) ≤ e → e ≤ 400 → zAy fuel p l e = some (if nok p = true then l - nds p else -1) := by
 induction p using zCy with
 | h p ih =>
  intro fuel l e hf h1 h2 h3 h4
  have hw := zEU p
  have hp := nds_pos p
  obtain ⟨g, rfl⟩ : ∃ g, fuel = g + 1 := ⟨fuel - 1, by omega⟩
  rw [zAy, if_neg (show ¬ ltI l 1 = true from fun h => by have := ltT h; omega), if_neg (show ¬ ltI e 1 = true from fun h => by have := ltT h; omega), rnode_M p (by omega), zAW, zAW, nok_eq]
  cases hn : nodeB p with
  | false => rfl
  | true =>
   have hs : nds p = 1 + (p.L.map nds).sum := zFq p
   have := count_loop p e g h3 h4 (fun x hx l e q1 q2 q3 q4 => ih x hx g l e (by have := zE5 hx; omega) q1 q2 q3 q4) p.L.length 0 g (l - 1) (by omega) (by omega) (by rw [List.drop_zero]; omega) (by omega)
   rw [List.drop_zero] at this
   simp only [Bool.not_true, Bool.false_eq_true, if_false, Bool.true_and]
   rw [chk64 (by omega) (by omega), zAW, this, zAW]
   congr 1
   split
   ·omega
   ·rfl
def vrs (p : zGr) : List (List UInt8) := (if p.Op = 2 then [p.S] else []) ++ (p.L.map vrs).flatten
decreasing_by all_goals (cases p; simp only [zGr.mk.sizeOf_spec]; have := List.sizeOf_lt_of_mem ‹_›; simp only at this; omega)
theorem vrs_eq (p : zGr) : vrs p = (if p.Op = 2 then [p.S] else []) ++ (p.L.map vrs).flatten := by rw [vrs]
theorem flat_len {α β : Type} (f : α → List β) : ∀ l : List α, ((l.map f).flatten).length = (l.map fun x => (f x).length).sum
 | [] => rfl
 | x :: l => by simp only [List.map_cons, List.flatten_cons, List.length_append, List.sum_cons, flat_len f l]
theorem vrs_len (p : zGr) : (vrs p).length ≤ nds p := by
 induction p using zCy with
 | h p ih =>
  rw [vrs_eq, zFq, List.length_append, flat_len]
  have := sum_le (f := fun x => (vrs x).length) (g := nds) ih
  split <;> simp <;> omega
theorem zCm {β : Type} (f : zGr → List β) (l : List zGr) (i : Nat) (h : i < l.length) : ((l.drop i).map f).flatten = f l[i] ++ ((l.drop (i + 1)).map f).flatten := by
 rw [List.drop_eq_getElem_cons h, List.map_cons, List.flatten_cons]
theorem nok_var {p : zGr} (h : nok p = true) (h2 : p.Op = 2) : p.L = [] := by
 have := (nok_iff.1 h).1
 unfold nodeB at this
 rw [if_neg (by omega), if_pos h2, Bool.and_eq_true] at this
 exact List.eq_nil_of_length_eq_zero (of_decide_eq_true this.1)
def stp (q : Bool × List (List UInt8 × Bool)) (s : List UInt8) : Bool × List (List UInt8 × Bool) := (q.1 && !(mgetD q.2 s false), mput q.2 s true)
theorem vv_loop1 (p : zGr) (g : Nat) (ih : ∀ x, x ∈ p.L → ∀ (q : Bool × List (List UInt8 × Bool)), zAC g x q.1 q.2 = some ((vrs x).foldl stp q)) :
  ∀ (n i k : Nat) (q : Bool × List (List UInt8 × Bool)), i + n = p.L.length → n + 1 ≤ k → zAI (zAC g) p k q.1 q.2 i = some (((p.L.drop i).map vrs).flatten.foldl stp q) := by
 intro n
 induction n with
 | zero =>
  intro i k q hi hk
  obtain ⟨k, rfl⟩ : ∃ q, k = q + 1 := ⟨k - 1, by omega⟩
  rw [List.drop_eq_nil_of_le (by omega), zAI, if_neg (ltN (by omega))]; rfl
 | succ n ihn =>
  intro i k q hi hk
  obtain ⟨k, rfl⟩ : ∃ q, k = q + 1 := ⟨k - 1, by omega⟩
  have hx : p.L[i]? = some p.L[i] := List.getElem?_eq_getElem (by omega)
  rw [zAI, if_pos (ltP (by omega)), hx, zAW, ih _ (List.getElem_mem _) q, zAW, ihn (i + 1) k _ (by omega) (by omega), zCm vrs p.L i (by omega), List.foldl_append]
theorem vv_loop2 (p : zGr) (g : Nat) (ih : ∀ x, x ∈ p.L → ∀ (q : Bool × List (List UInt8 × Bool)), zAC g x q.1 q.2 = some ((vrs x).foldl stp q)) :
  ∀ (n i k : Nat) (q : Bool × List (List UInt8 × Bool)), i + n = p.L.length → n + 1 ≤ k → zAM (zAC g) p k q.1 q.2 i = some (((p.L.drop i).map vrs).flatten.foldl stp q) := by
 intro n
 induction n with
 | zero =>
  intro i k q hi hk
  obtain ⟨k, rfl⟩ : ∃ q, k = q + 1 := ⟨k - 1, by omega⟩
  rw [List.drop_eq_nil_of_le (by omega), zAM, if_neg (ltN (by omega))]; rfl
 | succ n ihn =>
  intro i k q hi hk
  obtain ⟨k, rfl⟩ : ∃ q, k = q + 1 := ⟨k - 1, by omega⟩
  have hx : p.L[i]? = some p.L[i] := List.getElem?_eq_getElem (by omega)
  rw [zAM, if_pos (ltP (by omega)), hx, zAW, ih _ (List.getElem_mem _) q, zAW, ihn (i + 1) k _ (by omega) (by omega), zCm vrs p.L i (by omega), List.foldl_append]
theorem vv_M (p : zGr) : ∀ (fuel : Nat) (q : Bool × List (List UInt8 × Bool)), wt p ≤ fuel → zAC fuel p q.1 q.2 = some ((vrs p).foldl stp q) := by
 induction p using zCy with
 | h p ih =>
  intro fuel q hf
  have hw := zEU p
  obtain ⟨g, rfl⟩ : ∃ g, fuel = g + 1 := ⟨fuel - 1, by omega⟩
  have ih' : ∀ x, x ∈ p.L → ∀ (q : Bool × List (List UInt8 × Bool)), zAC g x q.1 q.2 = some ((vrs x).foldl stp q) := fun x hx q => ih x hx g q (by have := zE5 hx; omega)
  rw [zAC, vrs_eq]
  by_cases h2 : p.Op = 2
  ·have := vv_loop1 p g ih' p.L.length 0 g (stp q p.S) (by omega) (by omega)
   rw [List.drop_zero] at this
   rw [if_pos (show eqI p.Op 2 = true from decide_eq_true h2), if_pos h2, zBg, zAW]
   show (zAI (zAC g) p g (stp q p.S).1 (stp q p.S).2 0).bind _ = _
   rw [this, zAW]; rfl
  ·have := vv_loop2 p g ih' p.L.length 0 g q (by omega) (by omega)
   rw [List.drop_zero] at this
   rw [if_neg (show ¬ eqI p.Op 2 = true from fun h => h2 (eqT h)), if_neg h2, this, zAW]; rfl
theorem mget_put (m : List (List UInt8 × Bool)) (k k' : List UInt8) : mgetD (mput m k true) k' false = if k' = k then true else mgetD m k' false := by
 induction m with
 | nil =>
  simp only [mput, mgetD]
  by_cases h : k' = k <;> simp [h]
 | cons q m ih =>
  simp only [mput]
  by_cases h1 : k = q.1
  ·rw [if_pos (by simpa using h1)]
   simp only [mgetD]
   by_cases h2 : k' = q.1
   ·rw [if_pos (by simpa using h2), if_pos (by rw [h2, h1])]
   ·rw [if_neg (by simpa using h2), if_neg (by rw [h1]; exact h2), if_neg (by simpa using h2)]
  ·rw [if_neg (by simpa using h1)]
   simp only [mgetD]
   by_cases h2 : k' = q.1
   ·rw [if_pos (by simpa using h2), if_neg (by rw [h2]; exact fun e => h1 e.symm), if_pos (by simpa using h2)]
   ·have hb : ¬ (k' == q.1) = true := by simpa using h2
    simp only [if_neg hb]
    exact ih
theorem fold_iff : ∀ (l : List (List UInt8)) (c : Bool) (m : List (List UInt8 × Bool)) (K : List (List UInt8)), (∀ k, mgetD m k false = decide (k ∈ K)) → ((l.foldl stp (c, m)).1 = true ↔ c = true ∧ l.Nodup ∧ ∀ s, s ∈ l → s ∉ K)
 | [], c, m, K, h => by simp
 | s :: l, c, m, K, h => by
  have hK : ∀ k, mgetD (mput m s true) k false = decide (k ∈ s :: K) := fun k => by
   rw [mget_put, h k]
   by_cases hk : k = s
   ·rw [if_pos hk, decide_eq_true (by rw [hk]; exact List.mem_cons_self ..)]
   ·rw [if_neg hk]
    by_cases hm : k ∈ K
    ·rw [decide_eq_true hm, decide_eq_true (List.mem_cons_of_mem _ hm)]
    ·rw [decide_eq_false hm, decide_eq_false (fun e => (List.mem_cons.1 e).elim hk hm)]
  have ih := fold_iff l (c && !(mgetD m s false)) (mput m s true) (s :: K) hK
  rw [List.foldl_cons]
  show (l.foldl stp (c && !(mgetD m s false), mput m s true)).1 = true ↔ _
  rw [ih, h s, List.nodup_cons]
  simp only [Bool.and_eq_true, Bool.not_eq_true', decide_eq_false_iff_not, List.mem_cons, not_or]
  constructor
  ·rintro ⟨⟨h1, h2⟩, h3, h4⟩
   refine ⟨h1, ⟨fun hm => (h4 s hm).1 rfl, h3⟩, fun t ht => ?_⟩
   rcases ht with rfl | ht
   ·exact h2
   ·exact (h4 t ht).2
  ·rintro ⟨h1, ⟨h2, h3⟩, h4⟩
   exact ⟨⟨h1, h4 s (.inl rfl)⟩, h3, fun t ht => ⟨fun e => h2 (by rw [← e]; exact ht), h4 t (.inr ht)⟩⟩
def vld (p : zGr) : Bool := nok p && decide (vrs p).Nodup
theorem Valid_M (p : zGr) {fuel : Nat} (hf : wt p ≤ fuel) (hs : nds p ≤ 200) : zAs fuel p = some (vld p) := by
 rw [zAs, measure_M p fuel 20000 1 hf (by omega) (by omega) (by omega) (by omega), zAW]
 unfold vld
 cases hn : nok p with
 | false => rfl
 | true =>
  simp only [if_true, Bool.not_true, Bool.false_eq_true, if_false, Bool.true_and]
  have h1 := vv_M p fuel (true, []) hf
  have h2 := fold_iff (vrs p) true [] [] (fun k => by simp [mgetD])
  simp only at h1
  rw [h1, zAW]
  congr 1
  rw [Bool.eq_iff_iff, h2, decide_eq_true_iff]
  exact ⟨fun h => h.2.1, fun h => ⟨rfl, h, fun _ _ e => by cases e⟩⟩
theorem va_loop1 (p : zGr) (g : Nat) (ih : ∀ x, x ∈ p.L → ∀ c : List (List UInt8), c.length + (vrs x).length ≤ 1000 → zAD g x c = some (c ++ vrs x)) :
  ∀ (n i k : Nat) (c : List (List UInt8)), i + n = p.L.length → n + 1 ≤ k → c.length + (((p.L.drop i).map vrs).flatten).length ≤ 1000 → zAP (zAD g) p k c i = some (c ++ ((p.L.drop i).map vrs).flatten) := by
 intro n
 induction n with
 | zero =>
  intro i k c hi hk hc
  obtain ⟨k, rfl⟩ : ∃ q, k = q + 1 := ⟨k - 1, by omega⟩
  rw [List.drop_eq_nil_of_le (by omega), zAP, if_neg (ltN (by omega))]; simp
 | succ n ihn =>
  intro i k c hi hk hc
  obtain ⟨k, rfl⟩ : ∃ q, k = q + 1 := ⟨k - 1, by omega⟩
  have hx : p.L[i]? = some p.L[i] := List.getElem?_eq_getElem (by omega)
  rw [zCm vrs p.L i (by omega), List.length_append] at hc
  rw [zAP, if_pos (ltP (by omega)), hx, zAW, ih _ (List.getElem_mem _) c (by omega), zAW, ihn (i + 1) k _ (by omega) (by omega) (by rw [List.length_append]; omega), zCm vrs p.L i (by omega), List.append_assoc]
theorem va_loop2 (p : zGr) (g : Nat) (ih : ∀ x, x ∈ p.L → ∀ c : List (List UInt8), c.length + (vrs x).length ≤ 1000 → zAD g x c = some (c ++ vrs x)) :
  ∀ (n i k : Nat) (c : List (List UInt8)), i + n = p.L.length → n + 1 ≤ k → c.length + (((p.L.drop i).map vrs).flatten).length ≤ 1000 → zAO (zAD g) p k c i = some (c ++ ((p.L.drop i).map vrs).flatten) := by
 intro n
 induction n with
 | zero =>
  intro i k c hi hk hc
  obtain ⟨k, rfl⟩ : ∃ q, k = q + 1 := ⟨k - 1, by omega⟩
  rw [List.drop_eq_nil_of_le (by omega), zAO, if_neg (ltN (by omega))]; simp
 | succ n ihn =>
  intro i k c hi hk hc
  obtain ⟨k, rfl⟩ : ∃ q, k = q + 1 := ⟨k - 1, by omega⟩
  have hx : p.L[i]? = some p.L[i] := List.getElem?_eq_getElem (by omega)
  rw [zCm vrs p.L i (by omega), List.length_append] at hc
  rw [zAO, if_pos (ltP (by omega)), hx, zAW, ih _ (List.getElem_mem _) c (by omega), zAW, ihn (i + 1) k _ (by omega) (by omega) (by rw [List.length_append]; omega), zCm vrs p.L i (by omega), List.append_assoc]
theorem va_M (p : zGr) : ∀ (fuel : Nat) (c : List (List UInt8)), wt p ≤ fuel → c.length + (vrs p).length ≤ 1000 → zAD fuel p c = some (c ++ vrs p) := by
 induction p using zCy with
 | h p ih =>
  intro fuel c hf hc
  have hw := zEU p
  obtain ⟨g, rfl⟩ : ∃ g, fuel = g + 1 := ⟨fuel - 1, by omega⟩
  have ih' : ∀ x, x ∈ p.L → ∀ c : List (List UInt8), c.length + (vrs x).length ≤ 1000 → zAD g x c = some (c ++ vrs x) := fun x hx c h => ih x hx g c (by have := zE5 hx; omega) h
  rw [vrs_eq] at hc ⊢
  rw [zAD]
  by_cases h2 : p.Op = 2
  ·rw [if_pos h2] at hc ⊢
   simp only [List.length_append, List.length_cons, List.length_nil] at hc
   have := va_loop1 p g ih' p.L.length 0 g (c ++ [p.S]) (by omega) (by omega) (by rw [List.drop_zero]; simp only [List.length_append, List.length_cons, List.length_nil]; omega)
   rw [List.drop_zero] at this
   rw [if_pos (show eqI p.Op 2 = true from decide_eq_true h2), zBz, zGm (by decide) (by simp; omega), zAW, zAW, this, zAW, List.append_assoc]
  ·rw [if_neg h2] at hc ⊢
   have := va_loop2 p g ih' p.L.length 0 g c (by omega) (by omega) (by rw [List.drop_zero]; simpa using hc)
   rw [List.drop_zero] at this
   rw [if_neg (show ¬ eqI p.Op 2 = true from fun h => h2 (eqT h)), this, zAW]; rfl
theorem rv_loop (p : zGr) (g : Nat) (ih : ∀ x, x ∈ p.L → ∀ c : List (List UInt8), c.length + (vrs x).length ≤ 1000 → zA4 g c x = some (c ++ vrs x)) :
  ∀ (n i k : Nat) (c : List (List UInt8)), i + n = p.L.length → n + 1 ≤ k → c.length + (((p.L.drop i).map vrs).flatten).length ≤ 1000 → zAx (zA4 g) p k c i = some (c ++ ((p.L.drop i).map vrs).flatten) := by
 intro n
 induction n with
 | zero =>
  intro i k c hi hk hc
  obtain ⟨k, rfl⟩ : ∃ q, k = q + 1 := ⟨k - 1, by omega⟩
  rw [List.drop_eq_nil_of_le (by omega), zAx, if_neg (ltN (by omega))]; simp
 | succ n ihn =>
  intro i k c hi hk hc
  obtain ⟨k, rfl⟩ : ∃ q, k = q + 1 := ⟨k - 1, by omega⟩
  have hx : p.L[i]? = some p.L[i] := List.getElem?_eq_getElem (by omega)
  rw [zCm vrs p.L i (by omega), List.length_append] at hc
  rw [zAx, if_pos (ltP (by omega)), hx, zAW, ih _ (List.getElem_mem _) c (by omega), zAW, ihn (i + 1) k _ (by omega) (by omega) (by rw [List.length_append]; omega), zCm vrs p.L i (by omega), List.append_assoc]
theorem rv_M (p : zGr) : ∀ (fuel : Nat) (c : List (List UInt8)), wt p ≤ fuel → nok p = true → c.length + (vrs p).length ≤ 1000 → zA4 fuel c p = some (c ++ vrs p) := by
 induction p using zCy with
 | h p ih =>
  intro fuel c hf hn hc
  have hw := zEU p
  obtain ⟨g, rfl⟩ : ∃ g, fuel = g + 1 := ⟨fuel - 1, by omega⟩
  have ih' : ∀ x, x ∈ p.L → ∀ c : List (List UInt8), c.length + (vrs x).length ≤ 1000 → zA4 g c x = some (c ++ vrs x) := fun x hx c h => ih x hx g c (by have := zE5 hx; omega) ((nok_iff.1 hn).2 x hx) h
  rw [vrs_eq] at hc ⊢
  rw [zA4]
  by_cases h2 : p.Op = 2
  ·have hl := nok_var hn h2
   rw [if_pos h2, hl] at hc ⊢
   simp only [List.map_nil, List.flatten_nil, List.append_nil, List.length_cons, List.length_nil] at hc ⊢
   rw [if_pos (show eqI p.Op 2 = true from decide_eq_true h2), zGm (by decide) (by simp; omega), zAW, List.nil_append, zGm (by decide) (by simp; omega), zAW]
  ·rw [if_neg h2] at hc ⊢
   have := rv_loop p g ih' p.L.length 0 g c (by omega) (by omega) (by rw [List.drop_zero]; simpa using hc)
   rw [List.drop_zero] at this
   rw [if_neg (show ¬ eqI p.Op 2 = true from fun h => h2 (eqT h)), this, zAW]; rfl
theorem RVars_M (p : zGr) {fuel : Nat} (hf : wt p ≤ fuel) (hs : nds p ≤ 200) (hn : nok p = true) : zBl fuel p = some (vrs p) := by
 have := vrs_len p
 rw [zBl, rv_M p fuel [] hf hn (by simp; omega), zAW]; rfl
theorem Vars_M (p : zGr) {fuel : Nat} (hf : wt p ≤ fuel) (hs : nds p ≤ 200) : zB0 fuel p = some (if vld p = true then (vrs p, 0) else ([], 1)) := by
 have := vrs_len p
 rw [zB0, Valid_M p hf hs, zAW]
 cases vld p with
 | false => rfl
 | true =>
  simp only [Bool.not_true, Bool.false_eq_true, if_false, if_true]
  rw [va_M p fuel [] hf (by simp; omega), zAW]; rfl
theorem dup_loop (v : List (List UInt8)) (fuel : Nat) (hf : v.length + 1 ≤ fuel) : ∀ (n i k : Nat), i + n = v.length → n + 1 ≤ k → ∃ o, zAt fuel v k i = some o ∧
  ((o = .inr () ∧ ∀ (j : Nat) (h : j < v.length), i ≤ j → v[j] ∉ v.take j) ∨ (o = .inl false ∧ ∃ (j : Nat) (h : j < v.length), v[j] ∈ v.take j)) := by
 intro n
 induction n with
 | zero =>
  intro i k hi hk
  obtain ⟨k, rfl⟩ : ∃ q, k = q + 1 := ⟨k - 1, by omega⟩
  rw [zAt, if_neg (ltN (by omega))]
  exact ⟨_, rfl, .inl ⟨rfl, fun j h hj => by omega⟩⟩
 | succ n ihn =>
  intro i k hi hk
  obtain ⟨k, rfl⟩ : ∃ q, k = q + 1 := ⟨k - 1, by omega⟩
  have hx : v[i]? = some v[i] := List.getElem?_eq_getElem (by omega)
  obtain ⟨o, o1, o2⟩ := find_loop (v.take i) v[i] (v.take i).length 0 fuel (by omega) (by simp; omega)
  rw [zAt, if_pos (ltP (by omega)), subT v i (by omega), zAW, hx, zAW, zCE, o1]
  rw [List.drop_zero] at o2
  rcases o2 with ⟨h, j, rfl⟩ | ⟨h, rfl⟩
  ·simp only [zAW, Sum.elim_inl]
   rw [if_pos (show leI 0 (j : Int) = true from decide_eq_true (by omega))]
   rw [List.any_eq_true] at h
   obtain ⟨w, hw, he⟩ := h
   exact ⟨_, rfl, .inr ⟨rfl, i, by omega, by rw [← of_decide_eq_true he]; exact hw⟩⟩
  ·simp only [zAW, Sum.elim_inr]
   rw [if_neg (show ¬ leI 0 (-1) = true by decide)]
   obtain ⟨o, o3, o4⟩ := ihn (i + 1) k (by omega) (by omega)
   refine ⟨o, o3, ?_⟩
   rcases o4 with ⟨q1, q2⟩ | ⟨q1, q2⟩
   ·refine .inl ⟨q1, fun j hj hij => ?_⟩
    by_cases e : j = i
    ·subst e
     intro hm
     have : (v.take j).any (fun w => decide (w = v[j])) = true := List.any_eq_true.2 ⟨_, hm, decide_eq_true rfl⟩
     rw [h] at this; cases this
    ·exact q2 j hj (by omega)
   ·exact .inr ⟨q1, q2⟩
theorem nodup_take (v : List (List UInt8)) : v.Nodup ↔ ∀ (j : Nat) (h : j < v.length), v[j] ∉ v.take j := by
 unfold List.Nodup
 rw [List.pairwise_iff_getElem]
 constructor
 ·intro h j hj hm
  obtain ⟨i, hi, e⟩ := List.getElem_of_mem hm
  have hij : i < j := by simp at hi; omega
  rw [List.getElem_take] at e
  exact h i j (by omega) hj hij e
 ·intro h i j hi hj hij e
  refine h j hj ?_
  rw [← e, List.mem_take_iff_getElem]
  exact ⟨i, by omega, rfl⟩
theorem RValid_M (p : zGr) {fuel : Nat} (hf : wt p ≤ fuel) (hs : nds p ≤ 200) : zBp fuel p = some (vld p) := by
 have hp := nds_pos p
 have hw := nds_wt p
 have hl := vrs_len p
 have ho := zEU p
 rw [zBp, count_M p fuel 20000 400 hf (by omega) (by omega) (by omega) (by omega), zAW]
 unfold vld
 cases hn : nok p with
 | false => rfl
 | true =>
  simp only [if_true, Bool.true_and]
  rw [if_neg (show ¬ ltI (20000 - (nds p : Int)) 0 = true from fun h => by have := ltT h; omega), RVars_M p hf hs hn, zAW]
  have hlen : (vrs p).length + 1 ≤ wt p := by
   have := vrs_len p
   have h1 : nds p + 1 ≤ wt p := by
    rw [zFq, wt_eq]
    have := sum_le (f := nds) (g := wt) (l := p.L) (fun x _ => nds_wt x)
    omega
   omega
  obtain ⟨o, o1, o2⟩ := dup_loop (vrs p) fuel (by omega) (vrs p).length 0 fuel (by omega) (by omega)
  rw [o1, zAW]
  rcases o2 with ⟨rfl, h⟩ | ⟨rfl, j, hj, h⟩
  ·rw [decide_eq_true ((nodup_take _).2 fun j hj => h j hj (by omega))]; rfl
  ·rw [decide_eq_false (fun e => (nodup_take _).1 e j hj h)]; rfl
def brk (p : zGr) : Bool := match p.L with
 | x :: _ => decide (x.Op = 4) && decide (0 < x.L.length)
 | [] => false
def ctx (p : zGr) : List (List UInt8) → List UInt8
 | [] => p.S
 | t :: _ => (p.S ++ [32]) ++ (if brk p = true then ([40] ++ t) ++ [41] else t)
def txt (p : zGr) : List UInt8 :=
 if p.Op = 1 then [95] else if p.Op = 2 then p.S
 else if p.Op = 3 then (if p.N < 0 then [126, 32] ++ Lib.decDigits p.N.natAbs else Lib.decDigits p.N.natAbs)
 else if p.Op = 4 then ctx p (p.L.map txt)
 else ([40] ++ Lib.join (p.L.map txt) [44, 32]) ++ [41]
decreasing_by all_goals (cases p; simp only [zGr.mk.sizeOf_spec]; have := List.sizeOf_lt_of_mem ‹_›; simp only at this; omega)
theorem txt_eq (p : zGr) : txt p = if p.Op = 1 then [95] else if p.Op = 2 then p.S
 else if p.Op = 3 then (if p.N < 0 then [126, 32] ++ Lib.decDigits p.N.natAbs else Lib.decDigits p.N.natAbs)
 else if p.Op = 4 then ctx p (p.L.map txt)
 else ([40] ++ Lib.join (p.L.map txt) [44, 32]) ++ [41] := by rw [txt]
theorem nm_len {f : UInt8 → Bool} {s : List UInt8} (h : nm f s = true) : s.length ≤ 24 := by
 cases s with
 | nil => simp
 | cons c s =>
  rw [nm_cons, Bool.and_eq_true] at h
  exact of_decide_eq_true h.1
theorem lo_len {s : List UInt8} (h : loS s = true) : s.length ≤ 24 := by
 unfold loS at h
 rw [Bool.and_eq_true] at h
 exact nm_len h.1
theorem tail_len (r : List (List UInt8)) : (Lib.joinTail [44, 32] r).length = (r.map List.length).sum + 2 * r.length := by
 unfold Lib.joinTail
 induction r with
 | nil => rfl
 | cons x r ih => simp only [List.map_cons, List.flatten_cons, List.length_append, List.sum_cons, List.length_cons, ih, List.length_nil]; omega
theorem join_len (l : List (List UInt8)) : (Lib.join l [44, 32]).length ≤ (l.map List.length).sum + 2 * l.length := by
 cases l with
 | nil => simp [Lib.join_nil]
 | cons x r =>
  rw [Lib.join_cons, List.length_append, tail_len]
  simp only [List.map_cons, List.sum_cons, List.length_cons]; omega
theorem txts_len {l : List zGr} (h : ∀ x, x ∈ l → (txt x).length ≤ 30 * nds x) : ((l.map txt).map List.length).sum ≤ 30 * (l.map nds).sum := by
 induction l with
 | nil => simp
 | cons x l ih =>
  simp only [List.map_cons, List.sum_cons]
  have h1 := h x (List.mem_cons_self ..)
  have h2 := ih fun y hy => h y (List.mem_cons_of_mem _ hy)
  omega
theorem node3 {p : zGr} (h : nodeB p = true) (h3 : p.Op = 3) : -4503599627370496 ≤ p.N ∧ p.N ≤ 4503599627370496 := by
 unfold nodeB at h
 rw [if_neg (by omega), if_neg (by omega), if_pos h3] at h
 simp only [Bool.and_eq_true, decide_eq_true_eq] at h
 exact h.2.2
theorem node4 {p : zGr} (h : nodeB p = true) (h4 : p.Op = 4) : p.L.length ≤ 1 ∧ p.S.length ≤ 24 := by
 unfold nodeB at h
 rw [if_neg (by omega), if_neg (by omega), if_neg (by omega), if_pos h4] at h
 simp only [Bool.and_eq_true, decide_eq_true_eq] at h
 exact ⟨h.1, nm_len h.2.2⟩
theorem node2 {p : zGr} (h : nodeB p = true) (h2 : p.Op = 2) : p.S.length ≤ 24 := by
 unfold nodeB at h
 rw [if_neg (by omega), if_pos h2] at h
 simp only [Bool.and_eq_true, decide_eq_true_eq] at h
 exact lo_len h.2.2
theorem node5 {p : zGr} (h : nodeB p = true) (h1 : p.Op ≠ 1) (h2 : p.Op ≠ 2) (h3 : p.Op ≠ 3) (h4 : p.Op ≠ 4) : p.Op = 5 ∧ p.L.length ≤ 9 := by
 unfold nodeB at h
 rw [if_neg h1, if_neg h2, if_neg h3, if_neg h4] at h
 split at h
 ·rename_i h5
  simp only [Bool.and_eq_true, decide_eq_true_eq] at h
  exact ⟨h5, h.2.1⟩
 ·cases h
theorem zFw (p : zGr) : nok p = true → (txt p).length ≤ 30 * nds p := by
 induction p using zCy with
 | h p ih =>
  intro hn
  obtain ⟨hb, hk⟩ := nok_iff.1 hn
  have hs : nds p = 1 + (p.L.map nds).sum := zFq p
  rw [txt_eq]
  by_cases h1 : p.Op = 1
  ·rw [if_pos h1]; simp; omega
  by_cases h2 : p.Op = 2
  ·rw [if_neg h1, if_pos h2]; have := node2 hb h2; omega
  by_cases h3 : p.Op = 3
  ·have := node3 hb h3
   have := dec_len p.N.natAbs (by omega)
   rw [if_neg h1, if_neg h2, if_pos h3]
   split <;> simp <;> omega
  by_cases h4 : p.Op = 4
  ·obtain ⟨q1, q2⟩ := node4 hb h4
   rw [if_neg h1, if_neg h2, if_neg h3, if_pos h4]
   cases hL : p.L with
   | nil => simp only [List.map_nil, ctx]; omega
   | cons x l =>
    have hx : x ∈ p.L := by rw [hL]; exact List.mem_cons_self ..
    have h5 := ih x hx (hk x hx)
    have h6 := zEo hx
    simp only [List.map_cons, ctx]
    split <;> simp <;> omega
  ·obtain ⟨q0, q1⟩ := node5 hb h1 h2 h3 h4
   rw [if_neg h1, if_neg h2, if_neg h3, if_neg h4]
   have h5 := txts_len (l := p.L) fun x hx => ih x hx (hk x hx)
   have h6 := join_len (p.L.map txt)
   rw [List.length_map] at h6
   simp only [List.length_append, List.length_cons, List.length_nil]
   omega
theorem text_loop (p : zGr) (g : Nat) (ih : ∀ x, x ∈ p.L → zAd g x = some (txt x)) :
  ∀ (n i k : Nat) (l : List (List UInt8)), i + n = p.L.length → n + 1 ≤ k → l.length + n ≤ 1000 → zAm (zAd g) p k l i = some (l ++ (p.L.drop i).map txt) := by
 intro n
 induction n with
 | zero =>
  intro i k l hi hk hl
  obtain ⟨k, rfl⟩ : ∃ q, k = q + 1 := ⟨k - 1, by omega⟩
  rw [List.drop_eq_nil_of_le (by omega), zAm, if_neg (ltN (by omega))]; simp
 | succ n ihn =>
  intro i k l hi hk hl
  obtain ⟨k, rfl⟩ : ∃ q, k = q + 1 := ⟨k - 1, by omega⟩
  have hx : p.L[i]? = some p.L[i] := List.getElem?_eq_getElem (by omega)
  rw [zAm, if_pos (ltP (by omega)), hx, zAW, ih _ (List.getElem_mem _), zAW, zGm (by decide) (by simp; omega), zAW, ihn (i + 1) k _ (by omega) (by omega) (by simp; omega), List.drop_eq_getElem_cons (i := i) (by omega), List.map_cons, List.append_assoc]
  rfl
theorem num_M (n : Int) (h : -4503599627370496 ≤ n) (h2 : n ≤ 4503599627370496) (hn : ¬ n < 0) : zA8 n = some (Lib.decDigits n.natAbs) := by
 have := itoa_M n.natAbs (by omega)
 rwa [show ((n.natAbs : Nat) : Int) = n by omega] at this
theorem text_M (p : zGr) : ∀ fuel, wt p ≤ fuel → nok p = true → nds p ≤ 200 → zAd fuel p = some (txt p) := by
 induction p using zCy with
 | h p ih =>
  intro fuel hf hn hz
  have hw := zEU p
  obtain ⟨g, rfl⟩ : ∃ g, fuel = g + 1 := ⟨fuel - 1, by omega⟩
  obtain ⟨hb, hk⟩ := nok_iff.1 hn
  have ih' : ∀ x, x ∈ p.L → zAd g x = some (txt x) := fun x hx => ih x hx g (by have := zE5 hx; omega) (hk x hx) (by have := zEo hx; omega)
  have hlen := zFw p hn
  rw [zAd]
  rw [txt_eq] at hlen ⊢
  by_cases h1 : p.Op = 1
  ·rw [if_pos (show eqI p.Op 1 = true from decide_eq_true h1), if_pos h1]
  rw [if_neg h1] at hlen ⊢
  rw [if_neg (show ¬ eqI p.Op 1 = true from fun h => h1 (eqT h))]
  by_cases h2 : p.Op = 2
  ·rw [if_pos (show eqI p.Op 2 = true from decide_eq_true h2), if_pos h2]
  rw [if_neg h2] at hlen ⊢
  rw [if_neg (show ¬ eqI p.Op 2 = true from fun h => h2 (eqT h))]
  by_cases h3 : p.Op = 3
  ·rw [if_pos (show eqI p.Op 3 = true from decide_eq_true h3), if_pos h3]
   obtain ⟨q1, q2⟩ := node3 hb h3
   have := dec_len p.N.natAbs (by omega)
   by_cases hN : p.N < 0
   ·rw [if_pos (show ltI p.N 0 = true from decide_eq_true hN), if_pos hN, chk64 (by omega) (by omega), zAW, num_M (-p.N) (by omega) (by omega) (by omega), zAW, cat1 (by simp; omega), zAW, Int.natAbs_neg]
   ·rw [if_neg (show ¬ ltI p.N 0 = true from fun h => hN (ltT h)), if_neg hN, num_M p.N q1 q2 hN, zAW]
  rw [if_neg h3] at hlen ⊢
  rw [if_neg (show ¬ eqI p.Op 3 = true from fun h => h3 (eqT h))]
  by_cases h4 : p.Op = 4
  ·rw [if_pos h4] at hlen ⊢
   rw [if_pos (show eqI p.Op 4 = true from decide_eq_true h4)]
   obtain ⟨q1, q2⟩ := node4 hb h4
   cases hL : p.L with
   | nil => rfl
   | cons x l =>
    have hx : x ∈ p.L := by rw [hL]; exact List.mem_cons_self ..
    have h5 := zFw x (hk x hx)
    have h6 := zEo hx
    rw [if_neg (show ¬ eqI (((x :: l).length : Nat) : Int) 0 = true from fun h => by have := eqT h; simp at this; omega)]
    simp only [List.getElem?_cons_zero, zAW, ih' x hx, List.map_cons, ctx]
    have hbk : brk p = (eqI x.Op 4 && ltI 0 (x.L.length : Int)) := by
     unfold brk
     rw [hL]
     show (decide (x.Op = 4) && decide (0 < x.L.length)) = (decide (x.Op = 4) && decide ((0 : Int) < x.L.length))
     congr 1
     by_cases h0 : 0 < x.L.length
     ·rw [decide_eq_true h0, decide_eq_true (by omega)]
     ·rw [decide_eq_false h0, decide_eq_false (by omega)]
    rw [hbk]
    split
    ·rw [cat1 (by simp; omega), zAW, cat1 (by simp; omega), zAW, cat1 (by simp; omega), zAW, cat1 (by simp; omega), zAW]
    ·rw [cat1 (by simp; omega), zAW, cat1 (by simp; omega), zAW]
  ·rw [if_neg h4] at hlen ⊢
   rw [if_neg (show ¬ eqI p.Op 4 = true from fun h => h4 (eqT h))]
   obtain ⟨q0, q1⟩ := node5 hb h1 h2 h3 h4
   have := text_loop p g ih' p.L.length 0 g [] (by omega) (by omega) (by simp; omega)
   rw [List.drop_zero, List.nil_append] at this
   rw [this, zAW]
   simp only [List.length_append, List.length_cons, List.length_nil] at hlen
   rw [zBx, if_pos ⟨by rw [List.length_map]; omega, by omega⟩, zAW, cat1 (by simp; omega), zAW, cat1 (by simp; omega), zAW]
theorem Text_M (p : zGr) {fuel : Nat} (hf : wt p ≤ fuel) (hs : nds p ≤ 200) : zB1 fuel p = some (if vld p = true then (txt p, 0) else ([], 1)) := by
 rw [zB1, Valid_M p hf hs, zAW]
 cases hv : vld p with
 | false => rfl
 | true =>
  have hn : nok p = true := by unfold vld at hv; rw [Bool.and_eq_true] at hv; exact hv.1
  have := zFw p hn
  simp only [Bool.not_true, Bool.false_eq_true, if_false, if_true]
  rw [text_M p fuel hf hn hs, zAW, if_neg (show ¬ ltI 16384 ((txt p).length : Int) = true from fun h => by have := ltT h; omega)]
theorem rtext_loop (p : zGr) (g : Nat) (ih : ∀ x, x ∈ p.L → zAk g x = some (txt x)) :
  ∀ (n i k : Nat) (s : List UInt8), 1 ≤ i → i + n = p.L.length → n + 1 ≤ k → s.length + (Lib.joinTail [44, 32] ((p.L.drop i).map txt)).length ≤ 100000 → zAc (zAk g) p k s i = some (s ++ Lib.joinTail [44, 32] ((p.L.drop i).map txt)) := by
 intro n
 induction n with
 | zero =>
  intro i k s h1 hi hk hl
  obtain ⟨k, rfl⟩ : ∃ q, k = q + 1 := ⟨k - 1, by omega⟩
  rw [List.drop_eq_nil_of_le (by omega), zAc, if_neg (ltN (by omega))]; simp [Lib.joinTail]
 | succ n ihn =>
  intro i k s h1 hi hk hl
  obtain ⟨k, rfl⟩ : ∃ q, k = q + 1 := ⟨k - 1, by omega⟩
  have hx : p.L[i]? = some p.L[i] := List.getElem?_eq_getElem (by omega)
  have hj : Lib.joinTail [44, 32] ((p.L.drop i).map txt) = [44, 32] ++ txt p.L[i] ++ Lib.joinTail [44, 32] ((p.L.drop (i + 1)).map txt) := by
   rw [List.drop_eq_getElem_cons (i := i) (by omega), List.map_cons]
   rfl
  rw [hj] at hl ⊢
  simp only [List.length_append, List.length_cons, List.length_nil] at hl
  rw [zAc, if_pos (ltP (by omega)), if_pos (show ltI 0 (i : Int) = true from decide_eq_true (by omega)), cat1 (by simp; omega), zAW, hx, zAW, ih _ (List.getElem_mem _), zAW, cat1 (by simp; omega), zAW,
   ihn (i + 1) k _ (by omega) (by omega) (by omega) (by simp only [List.length_append, List.length_cons, List.length_nil]; omega)]
  simp
theorem RText_M (p : zGr) : ∀ fuel, wt p ≤ fuel → nok p = true → nds p ≤ 200 → zAk fuel p = some (txt p) := by
 induction p using zCy with
 | h p ih =>
  intro fuel hf hn hz
  have hw := zEU p
  obtain ⟨g, rfl⟩ : ∃ g, fuel = g + 1 := ⟨fuel - 1, by omega⟩
  obtain ⟨hb, hk⟩ := nok_iff.1 hn
  have ih' : ∀ x, x ∈ p.L → zAk g x = some (txt x) := fun x hx => ih x hx g (by have := zE5 hx; omega) (hk x hx) (by have := zEo hx; omega)
  have hlen := zFw p hn
  rw [zAk]
  rw [txt_eq] at hlen ⊢
  by_cases h1 : p.Op = 1
  ·rw [if_pos (show eqI p.Op 1 = true from decide_eq_true h1), if_pos h1]
  rw [if_neg h1] at hlen ⊢
  rw [if_neg (show ¬ eqI p.Op 1 = true from fun h => h1 (eqT h))]
  by_cases h2 : p.Op = 2
  ·rw [if_pos (show eqI p.Op 2 = true from decide_eq_true h2), if_pos h2]
  rw [if_neg h2] at hlen ⊢
  rw [if_neg (show ¬ eqI p.Op 2 = true from fun h => h2 (eqT h))]
  by_cases h3 : p.Op = 3
  ·rw [if_pos (show eqI p.Op 3 = true from decide_eq_true h3), if_pos h3]
   obtain ⟨q1, q2⟩ := node3 hb h3
   have := dec_len p.N.natAbs (by omega)
   have hd := Decimal_M 15 p.N.natAbs (by omega) (by omega) g (by omega)
   by_cases hN : p.N < 0
   ·rw [if_pos (show ltI p.N 0 = true from decide_eq_true hN), if_pos hN, chk64 (by omega) (by omega), zAW, show (0 : Int) - p.N = (p.N.natAbs : Int) by omega, hd, zAW, cat1 (by simp; omega), zAW]
   ·rw [show ((p.N.natAbs : Nat) : Int) = p.N by omega] at hd
    rw [if_neg (show ¬ ltI p.N 0 = true from fun h => hN (ltT h)), if_neg hN, hd, zAW]
  rw [if_neg h3] at hlen ⊢
  rw [if_neg (show ¬ eqI p.Op 3 = true from fun h => h3 (eqT h))]
  by_cases h4 : p.Op = 4
  ·rw [if_pos h4] at hlen ⊢
   rw [if_pos (show eqI p.Op 4 = true from decide_eq_true h4)]
   obtain ⟨q1, q2⟩ := node4 hb h4
   cases hL : p.L with
   | nil => rfl
   | cons x l =>
    have hx : x ∈ p.L := by rw [hL]; exact List.mem_cons_self ..
    have h5 := zFw x (hk x hx)
    have h6 := zEo hx
    rw [if_neg (show ¬ eqI (((x :: l).length : Nat) : Int) 0 = true from fun h => by have := eqT h; simp at this; omega)]
    simp only [List.getElem?_cons_zero, zAW, ih' x hx, List.map_cons, ctx]
    have hbk : brk p = (eqI x.Op 4 && ltI 0 (x.L.length : Int)) := by
     unfold brk
     rw [hL]
     show (decide (x.Op = 4) && decide (0 < x.L.length)) = (decide (x.Op = 4) && decide ((0 : Int) < x.L.length))
     congr 1
     by_cases h0 : 0 < x.L.length
     ·rw [decide_eq_true h0, decide_eq_true (by omega)]
     ·rw [decide_eq_false h0, decide_eq_false (by omega)]
    rw [hbk]
    split
    ·rw [cat1 (by simp; omega), zAW, cat1 (by simp; omega), zAW, cat1 (by simp; omega), zAW, cat1 (by simp; omega), zAW]
    ·rw [cat1 (by simp; omega), zAW, cat1 (by simp; omega), zAW]
  ·rw [if_neg h4] at hlen ⊢
   rw [if_neg (show ¬ eqI p.Op 4 = true from fun h => h4 (eqT h))]
   simp only [List.length_append, List.length_cons, List.length_nil] at hlen
   have key : zAc (zAk g) p g [40] 0 = some ([40] ++ Lib.join (p.L.map txt) [44, 32]) := by
    obtain ⟨k, rfl⟩ : ∃ k, g = k + 1 := ⟨g - 1, by omega⟩
    rw [zAc]
    cases hL : p.L with
    | nil => rfl
    | cons x l =>
     have hx : x ∈ p.L := by rw [hL]; exact List.mem_cons_self ..
     have h5 := zFw x (hk x hx)
     have h6 := zEo hx
     have hj : Lib.join ((x :: l).map txt) [44, 32] = txt x ++ Lib.joinTail [44, 32] (l.map txt) := by rw [List.map_cons, Lib.join_cons]
     have hd : p.L.drop 1 = l := by rw [hL]; rfl
     rw [if_pos (show ltI ((0 : Nat) : Int) (((x :: l).length : Nat) : Int) = true from decide_eq_true (by rw [List.length_cons]; omega)), if_neg (show ¬ ltI 0 ((0 : Nat) : Int) = true by decide)]
     simp only [List.getElem?_cons_zero, zAW, ih' x hx]
     rw [hL, hj] at hlen
     simp only [List.length_append] at hlen
     have h7 := rtext_loop p (k + 1) ih' l.length 1 k ([40] ++ txt x) (Nat.le_refl _) (by rw [hL, List.length_cons]; omega) (by rw [hL, List.length_cons] at hw; omega) (by rw [hd]; simp; omega)
     rw [hd] at h7
     rw [cat1 (by simp; omega), zAW, h7, hj, List.append_assoc]
   rw [key, zAW, cat1 (by simp; omega), zAW]
theorem pat_eq_iff (a b : zGr) : a = b ↔ a.Op = b.Op ∧ a.N = b.N ∧ a.S = b.S ∧ a.L = b.L := by
 cases a; cases b; simp
theorem zGF {α : Type} (s t : List α) (i : Nat) (h1 : i < s.length) (h2 : i < t.length) : s.drop i = t.drop i ↔ s[i] = t[i] ∧ s.drop (i + 1) = t.drop (i + 1) := by
 rw [List.drop_eq_getElem_cons h1, List.drop_eq_getElem_cons h2, List.cons.injEq]
theorem eqf_loop (F : zGr → zGr → Option Bool) (s t : List zGr) (hl : s.length = t.length) (ih : ∀ x, x ∈ s → ∀ y, ∃ v, F x y = some v ∧ (v = true ↔ x = y)) :
  ∀ (n i k : Nat), i + n = s.length → n + 1 ≤ k → ∃ o, zAG F s t k i = some o ∧ ((o = .inr () ∧ s.drop i = t.drop i) ∨ (o = .inl false ∧ ¬ s.drop i = t.drop i)) := by
 intro n
 induction n with
 | zero =>
  intro i k hi hk
  obtain ⟨k, rfl⟩ : ∃ q, k = q + 1 := ⟨k - 1, by omega⟩
  rw [zAG, if_neg (ltN (by omega))]
  exact ⟨_, rfl, .inl ⟨rfl, by rw [List.drop_eq_nil_of_le (by omega), List.drop_eq_nil_of_le (by omega)]⟩⟩
 | succ n ihn =>
  intro i k hi hk
  obtain ⟨k, rfl⟩ : ∃ q, k = q + 1 := ⟨k - 1, by omega⟩
  have hx : s[i]? = some s[i] := List.getElem?_eq_getElem (by omega)
  have hy : t[i]? = some t[i] := List.getElem?_eq_getElem (by omega)
  obtain ⟨v, h1, h2⟩ := ih s[i] (List.getElem_mem _) t[i]
  rw [zAG, if_pos (ltP (by omega)), hx, zAW, hy, zAW, h1, zAW, zGF s t i (by omega) (by omega)]
  cases v with
  | false => exact ⟨_, rfl, .inr ⟨rfl, fun h => by have := h2.2 h.1; cases this⟩⟩
  | true =>
   simp only [Bool.not_true, Bool.false_eq_true, if_false]
   obtain ⟨o, h3, h4⟩ := ihn (i + 1) k (by omega) (by omega)
   refine ⟨o, h3, ?_⟩
   rcases h4 with ⟨q1, q2⟩ | ⟨q1, q2⟩
   ·exact .inl ⟨q1, h2.1 rfl, q2⟩
   ·exact .inr ⟨q1, fun h => q2 h.2⟩
theorem lenE (s t : List zGr) : eqI (s.length : Int) (t.length : Int) = decide (s.length = t.length) := lenI s t.length
theorem equal_M (a : zGr) : ∀ (fuel : Nat) (b : zGr), wt a ≤ fuel → ∃ v, zAg fuel a b = some v ∧ (v = true ↔ a = b) := by
 induction a using zCy with
 | h a ih =>
  intro fuel b hf
  have hw := zEU a
  obtain ⟨g, rfl⟩ : ∃ g, fuel = g + 1 + 1 := ⟨fuel - 2, by omega⟩
  rw [zAg, pat_eq_iff]
  by_cases h1 : a.Op = b.Op
  rotate_left
  ·rw [if_neg (show ¬ eqI a.Op b.Op = true from fun h => h1 (eqT h))]
   exact ⟨false, rfl, by simp [h1]⟩
  rw [if_pos (show eqI a.Op b.Op = true from decide_eq_true h1)]
  by_cases h2 : a.N = b.N
  rotate_left
  ·rw [if_neg (show ¬ eqI a.N b.N = true from fun h => h2 (eqT h))]
   exact ⟨false, rfl, by simp [h2]⟩
  rw [if_pos (show eqI a.N b.N = true from decide_eq_true h2)]
  by_cases h3 : a.S = b.S
  rotate_left
  ·rw [if_neg (show ¬ eqS a.S b.S = true from fun h => h3 (of_decide_eq_true h))]
   exact ⟨false, rfl, by simp [h3]⟩
  rw [if_pos (show eqS a.S b.S = true from decide_eq_true h3), zAU, lenE]
  by_cases h4 : a.L.length = b.L.length
  rotate_left
  ·rw [decide_eq_false h4]
   exact ⟨false, rfl, by simp [show ¬ a.L = b.L from fun e => h4 (by rw [e])]⟩
  rw [decide_eq_true h4]
  obtain ⟨o, h5, h6⟩ := eqf_loop (zAg g) a.L b.L h4 (fun x hx y => ih x hx g y (by have := zE5 hx; omega)) a.L.length 0 g (by omega) (by omega)
  simp only [Bool.not_true, Bool.false_eq_true, if_false]
  rw [h5, zAW]
  rw [List.drop_zero, List.drop_zero] at h6
  rcases h6 with ⟨rfl, h6⟩ | ⟨rfl, h6⟩
  ·exact ⟨true, rfl, by simp [h1, h2, h3, h6]⟩
  ·exact ⟨false, rfl, by simp [h6]⟩
theorem Equal_M (a b : zGr) {fuel : Nat} (hf : wt a ≤ fuel) (hf2 : wt b ≤ fuel) (hs : nds a ≤ 200) (hs2 : nds b ≤ 200) : ∃ v, zA1 fuel a b = some v ∧ (v = true ↔ vld a = true ∧ vld b = true ∧ a = b) := by
 rw [zA1, Valid_M a hf hs, zAW]
 cases vld a with
 | false => exact ⟨false, rfl, by simp⟩
 | true =>
  rw [if_pos rfl, Valid_M b hf2 hs2, zAW]
  cases vld b with
  | false => exact ⟨false, rfl, by simp⟩
  | true =>
   obtain ⟨v, h1, h2⟩ := equal_M a fuel b hf
   rw [if_pos rfl, h1]
   exact ⟨v, rfl, by simp [h2]⟩
theorem same_loop (F : zGr → zGr → Option Bool) (a b : zGr) (hl : a.L.length = b.L.length) (ih : ∀ x, x ∈ a.L → ∀ y, ∃ v, F x y = some v ∧ (v = true ↔ x = y)) :
  ∀ (n i k : Nat), i + n = a.L.length → n + 1 ≤ k → ∃ o, zAz F a b k i = some o ∧ ((o = .inr () ∧ a.L.drop i = b.L.drop i) ∨ (o = .inl false ∧ ¬ a.L.drop i = b.L.drop i)) := by
 intro n
 induction n with
 | zero =>
  intro i k hi hk
  obtain ⟨k, rfl⟩ : ∃ q, k = q + 1 := ⟨k - 1, by omega⟩
  rw [zAz, if_neg (ltN (by omega))]
  exact ⟨_, rfl, .inl ⟨rfl, by rw [List.drop_eq_nil_of_le (by omega), List.drop_eq_nil_of_le (by omega)]⟩⟩
 | succ n ihn =>
  intro i k hi hk
  obtain ⟨k, rfl⟩ : ∃ q, k = q + 1 := ⟨k - 1, by omega⟩
  have hx : a.L[i]? = some a.L[i] := List.getElem?_eq_getElem (by omega)
  have hy : b.L[i]? = some b.L[i] := List.getElem?_eq_getElem (by omega)
  obtain ⟨v, h1, h2⟩ := ih a.L[i] (List.getElem_mem _) b.L[i]
  rw [zAz, if_pos (ltP (by omega)), hx, zAW, hy, zAW, h1, zAW, zGF a.L b.L i (by omega) (by omega)]
  cases v with
  | false => exact ⟨_, rfl, .inr ⟨rfl, fun h => by have := h2.2 h.1; cases this⟩⟩
  | true =>
   simp only [Bool.not_true, Bool.false_eq_true, if_false]
   obtain ⟨o, h3, h4⟩ := ihn (i + 1) k (by omega) (by omega)
   refine ⟨o, h3, ?_⟩
   rcases h4 with ⟨q1, q2⟩ | ⟨q1, q2⟩
   ·exact .inl ⟨q1, h2.1 rfl, q2⟩
   ·exact .inr ⟨q1, fun h => q2 h.2⟩
theorem Same_M (a : zGr) : ∀ (fuel : Nat) (b : zGr), wt a ≤ fuel → ∃ v, zBL fuel a b = some v ∧ (v = true ↔ a = b) := by
 induction a using zCy with
 | h a ih =>
  intro fuel b hf
  have hw := zEU a
  obtain ⟨g, rfl⟩ : ∃ g, fuel = g + 1 := ⟨fuel - 1, by omega⟩
  rw [zBL, pat_eq_iff, lenE]
  by_cases h1 : a.Op = b.Op
  rotate_left
  ·rw [show eqI a.Op b.Op = false from decide_eq_false h1]
   exact ⟨false, rfl, by simp [h1]⟩
  rw [show eqI a.Op b.Op = true from decide_eq_true h1]
  by_cases h2 : a.N = b.N
  rotate_left
  ·rw [show eqI a.N b.N = false from decide_eq_false h2]
   exact ⟨false, rfl, by simp [h2]⟩
  rw [show eqI a.N b.N = true from decide_eq_true h2]
  by_cases h3 : a.S = b.S
  rotate_left
  ·rw [show eqS a.S b.S = false from decide_eq_false h3]
   exact ⟨false, rfl, by simp [h3]⟩
  rw [show eqS a.S b.S = true from decide_eq_true h3]
  by_cases h4 : a.L.length = b.L.length
  rotate_left
  ·rw [decide_eq_false h4]
   exact ⟨false, rfl, by simp [show ¬ a.L = b.L from fun e => h4 (by rw [e])]⟩
  rw [decide_eq_true h4]
  obtain ⟨o, h5, h6⟩ := same_loop (zBL g) a b h4 (fun x hx y => ih x hx g y (by have := zE5 hx; omega)) a.L.length 0 g (by omega) (by omega)
  simp only [Bool.not_true, Bool.false_or, Bool.false_eq_true, if_false]
  rw [h5, zAW]
  rw [List.drop_zero, List.drop_zero] at h6
  rcases h6 with ⟨rfl, h6⟩ | ⟨rfl, h6⟩
  ·exact ⟨true, rfl, by simp [h1, h2, h3, h6]⟩
  ·exact ⟨false, rfl, by simp [h6]⟩
theorem eqs_loop (s : List (List UInt8)) : ∀ (n i k : Nat), i + n = s.length → n + 1 ≤ k → zAT s s k i = some (.inr ()) := by
 intro n
 induction n with
 | zero =>
  intro i k hi hk
  obtain ⟨k, rfl⟩ : ∃ q, k = q + 1 := ⟨k - 1, by omega⟩
  rw [zAT, if_neg (ltN (by omega))]
 | succ n ihn =>
  intro i k hi hk
  obtain ⟨k, rfl⟩ : ∃ q, k = q + 1 := ⟨k - 1, by omega⟩
  have hx : s[i]? = some s[i] := List.getElem?_eq_getElem (by omega)
  rw [zAT, if_pos (ltP (by omega)), hx, zAW, zAW, show eqS s[i] s[i] = true from decide_eq_true rfl, if_neg (by decide)]
  exact ihn (i + 1) k (by omega) (by omega)
theorem Equals_M (s : List (List UInt8)) {fuel : Nat} (hf : s.length + 1 ≤ fuel) : zAl fuel s s = some true := by
 rw [zAl, show eqI (s.length : Int) (s.length : Int) = true from decide_eq_true rfl, if_neg (by decide), eqs_loop s s.length 0 fuel (by omega) hf]
 rfl
theorem zEu (a b : zGr) : ∃ fuel, zBM fuel a b = some true := by
 refine ⟨wt a + wt b, ?_⟩
 have hfa : wt a ≤ wt a + wt b := by omega
 have hfb : wt b ≤ wt a + wt b := by omega
 generalize hfu : wt a + wt b = fuel at hfa hfb
 rw [zBM, zDl, zAW]
 simp only [Bool.not_true, Bool.false_eq_true, if_false]
 obtain ⟨x, hx1, hx2⟩ := Big_M a hfa
 rw [hx1, zAW]
 cases x with
 | true => rfl
 | false =>
  obtain ⟨y, hy1, hy2⟩ := Big_M b hfb
  simp only [Bool.false_eq_true, if_false]
  rw [hy1, zAW, zAW]
  cases y with
  | true => rfl
  | false =>
   have ha := hx2 rfl
   have hb := hy2 rfl
   simp only [Bool.false_eq_true, if_false]
   have ho := zEU a
   have hl := vrs_len a
   have hw := nds_wt a
   obtain ⟨e1, h1, h2⟩ := Equal_M a b hfa hfb ha hb
   obtain ⟨e2, h3, h4⟩ := Equal_M a a hfa hfa ha ha
   obtain ⟨e3, h5, h6⟩ := Same_M a fuel b hfa
   rw [RValid_M a hfa ha, zAW, Vars_M a hfa ha, zAW, Text_M a hfa ha, zAW, Valid_M a hfa ha, zAW, h1, h3, RValid_M b hfb hb, h5]
   simp only [zAW]
   have r1 : ∀ c : Bool, eqB c c = true := fun c => by cases c <;> rfl
   cases hva : vld a with
   | false =>
    have q1 : e1 = false := by cases e1 with
     | false => rfl
     | true => have := (h2.1 rfl).1; rw [hva] at this; cases this
    have q2 : e2 = false := by cases e2 with
     | false => rfl
     | true => have := (h4.1 rfl).1; rw [hva] at this; cases this
    subst q1; subst q2
    rfl
   | true =>
    have q2 : e2 = true := h4.2 ⟨hva, hva, rfl⟩
    subst q2
    have hn : nok a = true := by unfold vld at hva; rw [Bool.and_eq_true] at hva; exact hva.1
    have hlen : (vrs a).length + 1 ≤ fuel := by
     have h1 : nds a + 1 ≤ wt a := by
      rw [zFq, wt_eq]
      have := sum_le (f := nds) (g := wt) (l := a.L) (fun x _ => nds_wt x)
      omega
     omega
    have hV := RVars_M a hfa ha hn
    have hE := Equals_M (vrs a) hlen
    have hT := RText_M a fuel hfa hn ha
    have fin : (if eqI (0 : Int) 0 = true then (zBl fuel a).bind fun v67 => (zAl fuel (vrs a) v67).bind fun v69 => if v69 = true then if eqI (0 : Int) 0 = true then (zAk fuel a).bind fun v74 => some (eqS (txt a) v74) else some false else some false else some false : Option Bool) = some true := by
     rw [if_pos (show eqI (0 : Int) 0 = true from rfl), hV, zAW, hE, zAW, if_pos rfl, if_pos (show eqI (0 : Int) 0 = true from rfl), hT, zAW, show eqS (txt a) (txt a) = true from decide_eq_true rfl]
    cases hvb : vld b with
    | false =>
     have q1 : e1 = false := by cases e1 with
      | false => rfl
      | true => have := (h2.1 rfl).2.1; rw [hvb] at this; cases this
     subst q1
     simp only [r1, Bool.not_true, Bool.false_eq_true, if_false, if_true, zAW]
     rw [fin, zAW]
    | true =>
     have q1 : e1 = e3 := by
      rw [Bool.eq_iff_iff, h2, h6]
      exact ⟨fun h => h.2.2, fun h => ⟨hva, hvb, h⟩⟩
     subst q1
     simp only [r1, Bool.not_true, Bool.false_eq_true, if_false, if_true, zAW]
     rw [fin, zAW]
end Go.Proofs.YtipodehgjknelaaGreatDoor
