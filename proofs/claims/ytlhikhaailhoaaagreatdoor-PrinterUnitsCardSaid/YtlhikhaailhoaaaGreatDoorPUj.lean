/- For every input the law PrinterUnits returns true. Part 10 of 16. No condition. -/
import Derived.Test.YtlhikhaailhoaaaGreatDoorPUi
import Derived.Lib.Builder
import Derived.Lib.UnsafeStr
import Derived.Laws.Externs
set_option linter.unusedVariables false
set_option linter.unnecessarySimpa false
set_option linter.unusedSimpArgs false
set_option maxRecDepth 100000
set_option maxHeartbeats 1000000
namespace Go.Proofs.YtlhikhaailhoaaaGreatDoor
open Go Go.Abs Go.Proofs
theorem zI2 (b : Nat) (w : World) (h0 : w.cell? ⟨b, 0, none⟩ = some (.pointer (some ⟨b, 0, none⟩))) :
  Calls Tryz.prog 79 #[.pointer (some ⟨b, 0, none⟩)] w fun e w' => e = .returned (.tuple #[]) ∧ w' = w := by
 go_enter Tryz.func79, Tryz.ntmps79
 go_wp2
 rw [Lib.run_neq_ptr_same w _ Tryz.underlying63 (show Tryz.prog.info? 66 = some Tryz.t66 from rfl)]
 go_wp2
 go_end0
 exact ⟨rfl, rfl⟩
theorem zIM (b : Nat) (w : World) (h0 : w.cell? ⟨b, 0, none⟩ = some (.pointer none)) (hsh : w.shape? b = some (66, 2)) (hfz : w.frozen? ⟨b, 0, none⟩ = false) :
  Calls Tryz.prog 79 #[.pointer (some ⟨b, 0, none⟩)] w fun e w' => e = .returned (.tuple #[]) ∧ w' = w.setCell ⟨b, 0, none⟩ (.pointer (some ⟨b, 0, none⟩)) := by
 have hj : Tryz.prog.info? 66 = some Tryz.t66 := rfl
 go_enter Tryz.func79, Tryz.ntmps79
 go_wp2
 rw [Lib.run_to_unsafe w ⟨b, 0, none⟩ Tryz.underlying63 Tryz.underlying98 hj (by decide) hsh (Nat.zero_lt_succ 1)]
 simp only [Result.andThen]
 rw [Oper.upon_value]
 go_wp2
 rw [run_callFunc_extern Tryz.func102 (by kernel_rfl) (by kernel_rfl) (by kernel_rfl) (e := Extern.AbiNoEscape.same) (by kernel_rfl)]
 rw [Lib.run_noEscape]
 simp only [Result.andThen]
 rw [Oper.upon_value]
 go_wp2
 rw [Lib.run_from_unsafe w ⟨b, 0, none⟩ Tryz.underlying98 Tryz.underlying63 hj hsh (by kernel_rfl)]
 simp only [Result.andThen]
 rw [Oper.upon_value]
 go_wp2
 go_end0
 exact ⟨rfl, rfl⟩
theorem setSelf {g : Gh} {bs : List (List AV)} {w : World} (h : Sto g bs w) {i k ty : Nat} {rest : List AV} (hb0 : bs[i]? = some (.baddr ty i :: rest)) (hk0 : g.σ[i]? = some k) :
  Sto g bs (w.setCell ⟨k, 0, none⟩ (.pointer (some ⟨k, 0, none⟩))) := by
 have hkm : k ∈ g.σ := List.mem_of_getElem? hk0
 have hblock : ∀ j, j ≠ k → (w.setCell ⟨k, 0, none⟩ (.pointer (some ⟨k, 0, none⟩))).heap[j]? = w.heap[j]? := fun j hj => RowKit.Below.heap_setCell _ _ _ _ hj
 refine { h with
  imm := fun y u hy => ?_
  blk := fun i' blk k' hb hk' => ?_
  ownσ := fun p k' hk' => by simpa using h.ownσ p k' hk' }
 ·rw [World.cell?_setCell_other _ _ _ _ (fun e => h.immσ y u hy (by rw [← e]; exact hkm))]; exact h.imm y u hy
 ·obtain ⟨c, ty', h1, h2, h3⟩ := h.blk i' blk k' hb hk'
  by_cases hi : i' = i
  ·subst hi
   rw [hb0] at hb; cases hb
   rw [hk0] at hk'; cases hk'
   refine ⟨c.setIfInBounds 0 (.pointer (some ⟨k, 0, none⟩)), ty', ?_, by simpa using h2, fun j y hy => ?_⟩
   ·simp only [World.setCell, Array.getElem?_modify, if_true]
    rw [h1]; rfl
   ·obtain ⟨h5, h6, h7⟩ := h3 j y hy
    rw [zEp]
    cases j with
    | zero =>
     simp only [List.length_cons] at h2
     rw [if_pos ⟨rfl, by omega⟩]
     simp at hy; subst hy
     exact ⟨h5, .baddr _ _ _ hk0, OwnsBy.of_not rfl⟩
    | succ j =>
     rw [if_neg (fun e => by have := e.1; omega)]
     exact ⟨h5, h6, h7.world (fun _ _ _ _ hs => hs.setCell) zDX⟩
  ·refine ⟨c, ty', ?_, h2, fun j x hx => ?_⟩
   ·rw [hblock k' (fun e => ?_)]
    ·exact h1
    ·subst e
     obtain ⟨l1, e1⟩ := List.getElem?_eq_some_iff.1 hk'; obtain ⟨l2, e2⟩ := List.getElem?_eq_some_iff.1 hk0
     exact hi (nodup_inj h.nodup l1 l2 (by rw [e1, e2]))
   ·obtain ⟨h5, h6, h7⟩ := h3 j x hx
    exact ⟨h5, h6, h7.world (fun _ _ _ _ hs => hs.setCell) zDX⟩
theorem copyCheck_raw (x : AV) : Raw Tryz.prog 79 [.mptr 0 0] [[.baddr 66 0, x]] (.tup []) [[.baddr 66 0, x]] := by
 have hb : ([[.baddr 66 0, x]] : List (List AV))[0]? = some [.baddr 66 0, x] := rfl
 generalize ([[.baddr 66 0, x]] : List (List AV)) = bs at hb
 refine ⟨⟨_, Tryz.func79, rfl, rfl⟩, fun g w vals hs h0 htg ha => ?_⟩
 obtain ⟨hsz, hv⟩ := ha
 have hv0 := hv 0 _ rfl
 obtain ⟨v0, rfl⟩ := Array.size_eq_one_iff.1 hsz
 cases hv0' : (#[v0] : Array Value).getD 0 undef with
 | pointer p =>
  rw [hv0'] at hv0
  cases hv0 with
  | mptr _ _ k hk =>
   have : v0 = .pointer (some ⟨k, 0, none⟩) := hv0'
   subst this
   obtain ⟨c, ty, h1, h2, h3⟩ := hs.blk 0 _ k hb hk
   obtain ⟨h5, h6, h7⟩ := h3 0 _ rfl
   have hty : ty = 66 := by
    rcases h5 with h5 | ⟨b, h5⟩
    ·cases h5
    ·cases h5; rfl
   subst hty
   have hc0 := zFO h1 0 (by rw [h2]; exact Nat.zero_lt_succ _)
   have hkm : k ∈ g.σ := List.mem_of_getElem? hk
   generalize c.getD 0 undef = u at h6 hc0
   cases h6 with
   | baddr0 _ _ _ =>
    refine (zIM k w hc0 (by unfold World.shape?; rw [h1]; show some (66, c.size) = _; rw [h2]; rfl) (zGQ h1 0)).mono ?_
    rintro e w' ⟨rfl, rfl⟩
    refine ⟨g, _, rfl, .tup [] #[] rfl (by simp), setSelf hs hb hk, ?_, h0⟩
    have h8 := Ext.refl' w g (fun k hk => hs.σ_lt hk) h0 htg
    exact { h8 with
     keep := fun j hj hT => by
      rw [RowKit.Below.heap_setCell _ _ _ _ (fun e => ?_)]
      subst e
      exact hT (.inl hkm)
     size := by simp
     os := h8.os
     tape := h8.tape
     output := h8.output }
   | baddr _ _ k' hk' =>
    rw [hk] at hk'; cases hk'
    refine (zI2 k w hc0).mono ?_
    rintro e w' ⟨rfl, rfl⟩
    exact ⟨g, _, rfl, .tup [] #[] rfl (by simp), hs, Ext.refl' w' g (fun k hk => hs.σ_lt hk) h0 htg, h0⟩
 | _ => rw [hv0'] at hv0; cases hv0
theorem zDl (b : List UInt8) (r : Unit) (h : zCD b = some r) :
  Raw Tryz.prog 79 [.mptr 0 0] [[.baddr 66 0, .osl ⟨1, 5⟩ (b.map cU)]] (.tup []) [[.baddr 66 0, .osl ⟨1, 5⟩ (b.map cU)]] := copyCheck_raw _
section
variable (b : Nat) (w : World)
theorem us_none (p : Option Addr) (w : World) : (Builtin.unsafeString_ #[86, 3] 9 #[.pointer p, .int .i64 0]).run Tryz.prog w = .ok (.string ⟨#[]⟩) w := Lib.run_unsafeString_none w _ _ _ p
theorem string_nil (h0 : w.cell? ⟨b, 1, none⟩ = some (.slice none 0 0)) :
  Calls Tryz.prog 49 #[.pointer (some ⟨b, 0, none⟩)] w fun e w' => e = .returned (.string ⟨#[]⟩) ∧ w' = w.drew := by
 have c1 : w.drew.cell? ⟨b, 1, none⟩ = some (.slice none 0 0) := h0
 have hUS := us_none
 have hSD : (Builtin.unsafeSliceData_ #[64] 86 #[.slice none 0 0]).run Tryz.prog w.drew = .ok (.pointer none) w.drew := rfl
 go_enter Tryz.func49, Tryz.ntmps49
 go_wp2
 go_region
 all_goals (go_wp2; go_ret; exact ⟨rfl, rfl⟩)
theorem string_room (a : Addr) (k : Nat) (h0 : w.cell? ⟨b, 1, none⟩ = some (.slice (some a) 0 (k + 1))) :
  Calls Tryz.prog 49 #[.pointer (some ⟨b, 0, none⟩)] w fun e w' => e = .returned (.string ⟨#[]⟩) ∧ w' = w.drew := by
 have c1 : w.drew.cell? ⟨b, 1, none⟩ = some (.slice (some a) 0 (k + 1)) := h0
 have hUS := us_none
 have hSD : (Builtin.unsafeSliceData_ #[64] 86 #[.slice (some a) 0 (k + 1)]).run Tryz.prog w.drew = .ok (.pointer (some a)) w.drew := rfl
 go_enter Tryz.func49, Tryz.ntmps49
 go_wp2
 go_region
 all_goals (go_wp2; go_ret; exact ⟨rfl, rfl⟩)
theorem string_noroom (a : Addr) (sh : TypeId × Nat) (hsh : w.shape? a.block = some sh) (h0 : w.cell? ⟨b, 1, none⟩ = some (.slice (some a) 0 0)) (hlt : b < w.heap.size) :
  Calls Tryz.prog 49 #[.pointer (some ⟨b, 0, none⟩)] w fun e w' => e = .returned (.string ⟨#[]⟩) ∧ w' = (w.alloc (.view a 5)).drew := by
 have c1 : w.drew.cell? ⟨b, 1, none⟩ = some (.slice (some a) 0 0) := h0
 have hUS := us_none
 have hSD : (Builtin.unsafeSliceData_ #[64] 86 #[.slice (some a) 0 0]).run Tryz.prog w.drew = .ok (.pointer (some ⟨w.drew.heap.size, 0, none⟩)) (w.drew.alloc (.view a 5)) :=
  Lib.run_unsafeSliceData_zero w.drew _ _ 5 Tryz.underlying86 a 0 sh hsh
 have c3 : (w.alloc (.view a 5)).drew.cell? ⟨b, 1, none⟩ = some (.slice (some a) 0 0) := by
  show (w.alloc (.view a 5)).cell? ⟨b, 1, none⟩ = _
  rw [World.cell?_alloc_lt _ _ _ hlt]; exact h0
 have c2 : (w.drew.alloc (.view a 5)).cell? ⟨b, 1, none⟩ = some (.slice (some a) 0 0) := c3
 go_enter Tryz.func49, Tryz.ntmps49
 go_wp2
 go_region
 all_goals (go_wp2; go_ret; exact ⟨rfl, rfl⟩)
theorem string_some (q cells : Nat) (l : List UInt8) (cap : Nat) (h1 : l ≠ []) (hlc : l.length ≤ cap) (hn : l.length ≤ cells) (h63 : l.length ≤ 9223372036854775807) (hsh : w.shape? q = some (5, cells))
  (h0 : w.cell? ⟨b, 1, none⟩ = some (.slice (some ⟨q, 0, none⟩) l.length cap)) (hcell : ∀ j x, l[j]? = some x → w.cell? ((⟨q, 0, none⟩ : Addr).add j) = some (.int .u8 x.toNat)) :
  Calls Tryz.prog 49 #[.pointer (some ⟨b, 0, none⟩)] w fun e w' => e = .returned (.string ⟨l.toArray⟩) ∧ w' = w.drew.freeze ⟨q, 0, none⟩ l.length := by
 have c1 : w.drew.cell? ⟨b, 1, none⟩ = some (.slice (some ⟨q, 0, none⟩) l.length cap) := h0
 have hpos : l.length ≠ 0 := by simpa using h1
 have hSD : (Builtin.unsafeSliceData_ #[64] 86 #[.slice (some ⟨q, 0, none⟩) l.length cap]).run Tryz.prog w.drew = .ok (.pointer (some ⟨q, 0, none⟩)) w.drew :=
  Lib.run_unsafeSliceData_row w.drew _ _ _ _ _ (by omega)
 have hUS : (Builtin.unsafeString_ #[86, 3] 9 #[.pointer (some ⟨q, 0, none⟩), .int .i64 l.length]).run Tryz.prog w.drew = .ok (.string ⟨l.toArray⟩) (w.drew.freeze ⟨q, 0, none⟩ l.length) :=
  Lib.run_unsafeString_row w.drew 86 3 9 5 Tryz.underlying86 (by kernel_rfl) q cells hsh l h1 hn h63 hcell
 clear h1 hpos hlc hn h63 hcell
 generalize hw : w.drew.freeze ⟨q, 0, none⟩ l.length = wf at hUS ⊢
 go_enter Tryz.func49, Tryz.ntmps49
 go_wp2
 go_region
 all_goals (go_wp2; go_ret; exact ⟨rfl, rfl⟩)
end
theorem Sto.move {g : Gh} {bs : List (List AV)} {w w' : World} (h : Sto g bs w) (hc : ∀ a v, w.cell? a = some v → w'.cell? a = some v) (hb : ∀ k, k ∈ g.σ → w'.heap[k]? = w.heap[k]?) (hsz : w.heap.size ≤ w'.heap.size)
  (hown : ∀ (i j k : Nat) c ty blk x, bs[i]? = some blk → g.σ[i]? = some k → w.heap[k]? = some (.cells c ty (0, 0)) → blk[j]? = some x → OwnsBy g.imm w (g.own (.cell i j)) x (c.getD j undef) → OwnsBy g.imm w' (g.own (.cell i j)) x (c.getD j undef)) :
  Sto g bs w' := { h with
 imm := fun x v hx => hc _ _ (h.imm x v hx)
 blk := fun i blk k h1 h2 => by
  obtain ⟨c, ty, q1, q2, q3⟩ := h.blk i blk k h1 h2
  refine ⟨c, ty, by rw [hb k (List.mem_of_getElem? h2)]; exact q1, q2, fun j x hx => ?_⟩
  obtain ⟨r1, r2, r3⟩ := q3 j x hx
  exact ⟨r1, r2, hown i j k c ty blk x h1 h2 q1 hx r3⟩
 ownσ := fun p k hp => ⟨(h.ownσ p k hp).1, Nat.lt_of_lt_of_le (h.ownσ p k hp).2 hsz⟩ }
theorem zIl {g : Gh} {bs : List (List AV)} {w : World} (h : Sto g bs w) : Sto g bs w.drew :=
 Sto.move h (fun _ _ h => h) (fun _ _ => rfl) (Nat.le_refl _) fun _ _ _ _ _ _ _ _ _ _ _ h => h
theorem zIP {w : World} {k : Nat} {sh : TypeId × Nat} (h : zHv w k = some sh) : w.shape? k = some sh := by
 unfold zHv at h; unfold World.shape?
 split at h
 ·rename_i c ty fr e; rw [e]
  split at h
  ·exact h
  ·cases h
 ·cases h
theorem heap_freeze (w : World) (q n k : Nat) (h : k ≠ q) : (w.freeze ⟨q, 0, none⟩ n).heap[k]? = w.heap[k]? := by
 unfold World.freeze
 split
 ·rfl
 ·simp only [Array.getElem?_modify]; rw [if_neg (fun e => h e.symm)]
theorem freeze_at {w : World} {q n : Nat} {c : Array Value} {ty : TypeId} {fr : Nat × Nat} (h : w.heap[q]? = some (.cells c ty fr)) (hn : n ≠ 0) :
  (w.freeze ⟨q, 0, none⟩ n).heap[q]? = some (.cells c ty (if fr.1 == fr.2 then (0, n) else (0, max fr.2 n))) := by
 unfold World.freeze
 rw [if_neg hn]
 simp only [Array.getElem?_modify, if_true, h, Option.map_some]
 obtain ⟨lo, hi⟩ := fr
 simp
theorem zDV (b : List UInt8) (r : List UInt8) (h : zCT b = some r) :
  Raw Tryz.prog 49 [.mptr 0 0] [[.baddr 66 0, .osl ⟨1, 5⟩ (b.map cU)]] (.str r) [[.baddr 66 0, .osl ⟨1, 5⟩ (b.map cU)]] := by
 obtain rfl := Option.some.inj h
 refine ⟨⟨_, Tryz.func49, rfl, rfl⟩, fun g w vals hs h0 htg ha => ?_⟩
 obtain ⟨hsz, hv⟩ := ha
 have hv0 := hv 0 _ rfl
 obtain ⟨v0, rfl⟩ := Array.size_eq_one_iff.1 hsz
 cases hv0' : (#[v0] : Array Value).getD 0 undef with
 | pointer p =>
  rw [hv0'] at hv0
  cases hv0 with
  | mptr _ _ k hk =>
   have : v0 = .pointer (some ⟨k, 0, none⟩) := hv0'
   subst this
   obtain ⟨c, ty, h1, h2, h3⟩ := hs.blk 0 _ k rfl hk
   obtain ⟨h5, h6, h7⟩ := h3 1 _ rfl
   have hc1 := zFO h1 1 (by rw [h2]; exact Nat.lt_succ_self _)
   have hkl := hs.σ_lt (List.mem_of_getElem? hk)
   have hrefl := Ext.refl' w g (fun k hk => hs.σ_lt hk) h0 htg
   have hext : ∀ w' : World, (∀ k, k < w.heap.size → ¬ Fx.T ⟨w, g⟩ k → w'.heap[k]? = w.heap[k]?) → w.heap.size ≤ w'.heap.size → w'.os = w.os → w'.tape = w.tape → w'.output = w.output → Ext ⟨w, g⟩ g w' := fun w' p1 p2 p3 p4 p5 =>
    { hrefl with keep := p1, size := p2, os := p3, tape := p4, output := p5 }
   have hstr : b.length ≤ 281474976710656 → Rep g.imm g.σ (.str b) (.string ⟨b.toArray⟩) := fun hl => .str _ _ (by simp) (by omega)
   generalize hcv : c.getD 1 undef = u at h6 h7 hc1
   cases h6' : b with
   | nil =>
    subst h6'
    have hrs : Rep g.imm g.σ (.str []) (.string ⟨#[]⟩) := hstr (by simp)
    cases h6 with
    | osl0 _ =>
     refine (string_nil k w hc1).mono ?_
     rintro e w' ⟨rfl, rfl⟩
     exact ⟨g, _, rfl, hrs, zIl hs, hext _ (fun _ _ _ => rfl) (Nat.le_refl _) rfl rfl rfl, h0⟩
    | osl _ _ a n cap vs hn hcap hbd he hi hr =>
     have hn0 : n = 0 := by simpa using hn
     subst hn0
     cases cap with
     | succ cap =>
      refine (string_room k w a cap hc1).mono ?_
      rintro e w' ⟨rfl, rfl⟩
      exact ⟨g, _, rfl, hrs, zIl hs, hext _ (fun _ _ _ => rfl) (Nat.le_refl _) rfl rfl rfl, h0⟩
     | zero =>
      rcases h7 _ _ _ rfl with h8 | ⟨a', h8, h9, ⟨ha1, ha2, m, h10, h11⟩, h12⟩
      ·cases h8
      ·cases h8
       refine (string_noroom k w a _ (zIP h10) hc1 hkl).mono ?_
       rintro e w' ⟨rfl, rfl⟩
       refine ⟨g, _, rfl, hrs, zIl (Sto.move hs (fun x v hx => ?_) (fun k' hk' => heap_alloc_old w _ (hs.σ_lt hk')) (by simp) fun i j k' c' ty' blk x e1 e2 e3 e4 e5 => ?_), hext _ (fun k' hk' _ => heap_alloc_old w _ hk') (by simp) rfl rfl rfl, h0⟩
       ·rw [World.cell?_alloc_lt _ _ _ (World.block_lt_of_cell? _ _ hx)]; exact hx
       ·exact e5.world (fun _ _ _ _ hs => hs.alloc (fun _ _ => rfl)) zFW
   | cons x0 b0 =>
    have hne : b ≠ [] := by rw [h6']; simp
    rw [← h6']
    clear h6'
    generalize hl0 : b.map cU = l0 at h6
    cases h6 with
    | osl0 _ => exact absurd (List.map_eq_nil_iff.1 hl0) hne
    | osl _ _ a n cap vs hn hcap hbd he hi hr =>
     subst hl0
     have hn' : n = b.length := by simpa using hn
     subst hn'
     rcases h7 _ _ _ rfl with h8 | ⟨a', h8, h9, ⟨ha1, ha2, m, h10, h11⟩, h12⟩
     ·cases h8
     ·cases h8
      obtain ⟨q, off, spot⟩ := a
      simp only at ha1 ha2 h9 h10
      subst ha1; subst ha2
      have hpos : b.length ≠ 0 := by simpa using hne
      have hcell : ∀ j x, b[j]? = some x → w.cell? ((⟨q, 0, none⟩ : Addr).add j) = some (.int .u8 x.toNat) := fun j x hx => by
       have e1 : (b.map cU)[j]? = some [.int .u8 x.toNat] := by rw [List.getElem?_map, hx]; rfl
       have e2 := hi j _ e1 0 _ rfl
       have e3 := hr j _ e1 0 _ rfl
       have e4 := hs.imm _ _ e2
       simp only [Nat.mul_one, Nat.add_zero] at e4
       rw [e4]
       generalize vs j 0 = y at e3
       cases e3; rfl
      have hblk : ∃ c' fr, w.heap[q]? = some (.cells c' 5 fr) ∧ (fr.1 = fr.2 ∨ fr.1 = 0) ∧ c'.size = m := by
       unfold zHv at h10
       split at h10
       ·rename_i c' ty' fr e
        split at h10
        ·rename_i hfr; cases h10; exact ⟨c', fr, e, hfr, rfl⟩
        ·cases h10
       ·cases h10
      obtain ⟨c', fr, hq, hfr, hm⟩ := hblk
      have hcm : cap ≤ m := by simpa using h11
      refine (string_some k w q m b cap hne hcap (by omega) (by omega) (zIP h10) hc1 hcell).mono ?_
      rintro e w' ⟨rfl, rfl⟩
      have hqσ := (hs.ownσ _ q h9).1
      have hfz : ∀ k', k' ≠ q → (w.freeze ⟨q, 0, none⟩ b.length).heap[k']? = w.heap[k']? := fun k' hk' => heap_freeze w q _ k' hk'
      have hfq := freeze_at (n := b.length) hq hpos
      have hsize : (w.freeze ⟨q, 0, none⟩ b.length).heap.size = w.heap.size := by unfold World.freeze; split <;> simp
      have hcells : ∀ x, (w.freeze ⟨q, 0, none⟩ b.length).cell? x = w.cell? x := fun x => by
       unfold World.cell?
       by_cases hx : x.block = q
       ·rw [hx, hfq, hq]
       ·rw [hfz _ hx]
      have hdrw : w.drew.freeze ⟨q, 0, none⟩ b.length = (w.freeze ⟨q, 0, none⟩ b.length).drew := by
       unfold World.freeze; split <;> rfl
      rw [hdrw]
      refine ⟨g, _, rfl, hstr hbd, zIl (Sto.move hs (fun x v hx => by rw [hcells]; exact hx) (fun k' hk' => hfz k' (fun e => hqσ (by rw [← e]; exact hk'))) (by rw [hsize]; exact Nat.le_refl _) fun i j k' c2 ty' blk x e1 e2 e3 e4 e5 => ?_),
       hext _ (fun k' hk' hT => hfz k' (fun e => hT (.inr ⟨0, 1, by rw [e]; exact h9⟩))) (by show _ ≤ (w.freeze ⟨q, 0, none⟩ b.length).heap.size; rw [hsize]; exact Nat.le_refl _) (by show (w.freeze ⟨q, 0, none⟩ b.length).os = _; unfold World.freeze; split <;> rfl)
       (by show (w.freeze ⟨q, 0, none⟩ b.length).tape = _; unfold World.freeze; split <;> rfl) (by show (w.freeze ⟨q, 0, none⟩ b.length).output = _; unfold World.freeze; split <;> rfl), h0⟩
      cases i with
      | succ i => simp at e1
      | zero =>
       simp only [List.getElem?_cons_zero, Option.some.injEq] at e1
       subst e1
       rw [hk] at e2; cases e2
       rw [h1] at e3; cases e3
       cases j with
       | zero => simp only [List.getElem?_cons_zero, Option.some.injEq] at e4; subst e4; exact OwnsBy.of_not rfl
       | succ j =>
        cases j with
        | succ j => simp at e4
        | zero =>
         simp only [List.getElem?_cons_succ, List.getElem?_cons_zero, Option.some.injEq] at e4
         subst e4
         rw [hcv]
         intro base n cap' hv'
         cases hv'
         refine .inr ⟨_, rfl, h9, ⟨rfl, rfl, m, ?_, h11⟩, fun j hj1 hj2 => ?_⟩
         ·unfold zHv
          rw [hfq, ← hm]
          simp only
          split <;> simp
         ·obtain ⟨p1, p2, p3⟩ := h12 j hj1 hj2
          refine ⟨p1, by rw [hcells]; exact p2, ?_⟩
          have hb0 : ((⟨q, 0, none⟩ : Addr).add j).block = q := zGF _ _
          have ho0 : ((⟨q, 0, none⟩ : Addr).add j).off = j := by rw [add_off]; exact Nat.zero_add j
          unfold World.frozen? at p3 ⊢
          rw [hb0, hq] at p3
          rw [hb0, hfq]
          rw [ho0] at p3 ⊢
          simp only [Nat.mul_one] at hj1
          obtain ⟨lo, hi'⟩ := fr
          simp only [Bool.and_eq_false_iff, decide_eq_false_iff_not] at p3 hfr
          by_cases hlo : lo = hi'
          ·rw [if_pos (by simp [hlo])]
           simp; omega
          ·rw [if_neg (by simp [hlo])]
           simp; omega
 | _ => rw [hv0'] at hv0; cases hv0
end Go.Proofs.YtlhikhaailhoaaaGreatDoor
namespace Go.Proofs.YtlhikhaailhoaaaGreatDoor
open Go Go.Abs
theorem zFR (n1 : Int) (r : zJC) (h : zD2 n1 = some r) : Pure Tryz.prog 16 [.int .i64 n1] (.agg r.d) := by
 rw [zD2] at h
 refine zAO Tryz.func16 (by rfl) (by rfl) (by simp) (by simp) (by simp) <| cutA 5 0 [(0, .int .i64 n1), (2, .mptr 0 0)] [[.int .i64 0, .int .i64 0, .str ([] : List UInt8), .osl ⟨1, 9⟩ (([] : List (List UInt8)).map cS), .osl ⟨5, 25⟩ (([] : List zJC).map zJC.c)]] <| cutA 5 0 [(2, .mptr 0 0)] [[.int .i64 21, .int .i64 n1, .str ([] : List UInt8), .osl ⟨1, 9⟩ (([] : List (List UInt8)).map cS), .osl ⟨5, 25⟩ (([] : List zJC).map zJC.c)]] <| zAB ?_
 obtain rfl := oi h
 simp
theorem zHF (n1 : Int) (l2 : (List zJC)) (r : zJC) (h : zFb n1 l2 = some r) : Pure Tryz.prog 15 [.int .i64 n1, .sl (l2.map zJC.c)] (.agg r.d) := by
 rw [zFb] at h
 refine zAO Tryz.func15 (by rfl) (by rfl) (by simp) (by simp) (by simp) <| cutA 8 0 [(0, .int .i64 n1), (1, .sl (l2.map zJC.c)), (4, .mptr 0 0)] [[.int .i64 0, .int .i64 0, .str ([] : List UInt8), .osl ⟨1, 9⟩ (([] : List (List UInt8)).map cS), .osl ⟨5, 25⟩ (([] : List zJC).map zJC.c)]] <| cutA 8 0 [(4, .mptr 0 0)] [[.int .i64 32, .int .i64 n1, .str ([] : List UInt8), .osl ⟨1, 9⟩ (([] : List (List UInt8)).map cS), .sl (l2.map zJC.c)]] <| zAB ?_
 obtain rfl := oi h
 simp
theorem law06_name_ok (s1 : (List UInt8)) (r : zJC) (h : zFm s1 = some r) : Pure Tryz.prog 17 [.str s1] (.agg r.d) := by
 rw [zFm] at h
 refine zAO Tryz.func17 (by rfl) (by rfl) (by simp) (by simp) (by simp) <| cutA 6 0 [(0, .str s1), (2, .mptr 0 0)] [[.int .i64 0, .int .i64 0, .str ([] : List UInt8), .osl ⟨1, 9⟩ (([] : List (List UInt8)).map cS), .osl ⟨5, 25⟩ (([] : List zJC).map zJC.c)]] <| cutA 6 0 [(2, .mptr 0 0)] [[.int .i64 23, .int .i64 0, .str ([] : List UInt8), .sl ([s1].map cS), .osl ⟨5, 25⟩ (([] : List zJC).map zJC.c)]] <| zAB ?_
 obtain rfl := oi h
 simp
theorem zG6 (op1 : Int) (r : Int) (h : zDM op1 = some r) : Pure Tryz.prog 54 [.int .i64 op1] (.int .i64 r) := by
 rw [zDM] at h
 refine zAO Tryz.func54 (by rfl) (by rfl) (by simp) (by simp) (by simp) <| cutA 61 0 [(0, .int .i64 op1)] [] <| zAM <| cutA 61 0 [(3, .int .i64 op1)] [] <| zAU <| zAM <| cutA 61 0 [(3, .int .i64 op1), (4, .bool (eqI op1 1))] [] ?_
 refine spc h rfl (fun g2 h => ?_) fun g2 h => ?_
 ·refine zAF <| zAP <| zBE rfl (by simp [g2]) <| cutA 61 0 [(2, .int .i64 1)] [] <| zAB <| zAJ <| zAE ?_
  obtain rfl := oi h
  simp
 refine cutA 61 0 [(3, .int .i64 op1), (4, .bool (eqI op1 2))] [] <| spc h rfl (fun g5 h => ?_) fun g5 h => ?_
 ·refine zAF <| zAP <| zBE rfl (by simp [g5]) <| cutA 61 0 [(2, .int .i64 1)] [] <| zAB <| zAJ <| zAE ?_
  obtain rfl := oi h
  simp
 refine cutA 61 0 [(3, .int .i64 op1), (4, .bool (eqI op1 3))] [] <| spc h rfl (fun g8 h => ?_) fun g8 h => ?_
 ·refine zAF <| zAP <| zBE rfl (by simp [g8]) <| cutA 61 0 [(2, .int .i64 1)] [] <| zAB <| zAJ <| zAE ?_
  obtain rfl := oi h
  simp
 refine cutA 61 0 [(3, .int .i64 op1), (4, .bool (eqI op1 4))] [] <| spc h rfl (fun g11 h => ?_) fun g11 h => ?_
 ·refine zAF <| zAP <| zBE rfl (by simp [g11]) <| cutA 61 0 [(2, .int .i64 1)] [] <| zAB <| zAJ <| zAE ?_
  obtain rfl := oi h
  simp
 refine zEf 61 0 [(3, .int .i64 op1), (4, .bool (eqI op1 5))] [] <| spc h rfl (fun g14 h => ?_) fun g14 h => ?_
 ·have c15 := eqT g14
  refine cutA 61 0 [(2, .int .i64 1)] [] <| zAB <| zAJ <| zAE ?_
  obtain rfl := oi h
  simp
 have c16 := eqF g14
 refine zAM <| cutA 61 0 [(3, .int .i64 op1), (10, .bool (eqI op1 11))] [] <| spc h rfl (fun g17 h => ?_) fun g17 h => ?_
 ·refine zAF <| zAP <| zBE rfl (by simp [g17]) <| cutA 61 0 [(2, .int .i64 2)] [] <| zAB <| zAJ <| zAE ?_
  obtain rfl := oi h
  simp
 refine cutA 61 0 [(3, .int .i64 op1), (10, .bool (eqI op1 12))] [] <| spc h rfl (fun g20 h => ?_) fun g20 h => ?_
 ·refine zAF <| zAP <| zBE rfl (by simp [g20]) <| cutA 61 0 [(2, .int .i64 2)] [] <| zAB <| zAJ <| zAE ?_
  obtain rfl := oi h
  simp
 refine cutA 61 0 [(3, .int .i64 op1), (10, .bool (eqI op1 13))] [] <| spc h rfl (fun g23 h => ?_) fun g23 h => ?_
 ·refine zAF <| zAP <| zBE rfl (by simp [g23]) <| cutA 61 0 [(2, .int .i64 2)] [] <| zAB <| zAJ <| zAE ?_
  obtain rfl := oi h
  simp
 refine cutA 61 0 [(3, .int .i64 op1), (10, .bool (eqI op1 14))] [] <| spc h rfl (fun g26 h => ?_) fun g26 h => ?_
 ·refine zAF <| zAP <| zBE rfl (by simp [g26]) <| cutA 61 0 [(2, .int .i64 2)] [] <| zAB <| zAJ <| zAE ?_
  obtain rfl := oi h
  simp
 refine zEf 61 0 [(3, .int .i64 op1), (10, .bool (eqI op1 15))] [] <| spc h rfl (fun g29 h => ?_) fun g29 h => ?_
 ·have c30 := eqT g29
  refine cutA 61 0 [(2, .int .i64 2)] [] <| zAB <| zAJ <| zAE ?_
  obtain rfl := oi h
  simp
 have c31 := eqF g29
 refine zAM <| cutA 61 0 [(3, .int .i64 op1), (16, .bool (eqI op1 21))] [] <| spc h rfl (fun g32 h => ?_) fun g32 h => ?_
 ·refine zAF <| zAP <| zBE rfl (by simp [g32]) <| cutA 61 0 [(2, .int .i64 3)] [] <| zAB <| zAJ <| zAE ?_
  obtain rfl := oi h
  simp
 refine cutA 61 0 [(3, .int .i64 op1), (16, .bool (eqI op1 22))] [] <| spc h rfl (fun g35 h => ?_) fun g35 h => ?_
 ·refine zAF <| zAP <| zBE rfl (by simp [g35]) <| cutA 61 0 [(2, .int .i64 3)] [] <| zAB <| zAJ <| zAE ?_
  obtain rfl := oi h
  simp
 refine cutA 61 0 [(3, .int .i64 op1), (16, .bool (eqI op1 23))] [] <| spc h rfl (fun g38 h => ?_) fun g38 h => ?_
 ·refine zAF <| zAP <| zBE rfl (by simp [g38]) <| cutA 61 0 [(2, .int .i64 3)] [] <| zAB <| zAJ <| zAE ?_
  obtain rfl := oi h
  simp
 refine cutA 61 0 [(3, .int .i64 op1), (16, .bool (eqI op1 24))] [] <| spc h rfl (fun g41 h => ?_) fun g41 h => ?_
 ·refine zAF <| zAP <| zBE rfl (by simp [g41]) <| cutA 61 0 [(2, .int .i64 3)] [] <| zAB <| zAJ <| zAE ?_
  obtain rfl := oi h
  simp
 refine cutA 61 0 [(3, .int .i64 op1), (16, .bool (eqI op1 25))] [] <| spc h rfl (fun g44 h => ?_) fun g44 h => ?_
 ·refine zAF <| zAP <| zBE rfl (by simp [g44]) <| cutA 61 0 [(2, .int .i64 3)] [] <| zAB <| zAJ <| zAE ?_
  obtain rfl := oi h
  simp
 refine cutA 61 0 [(3, .int .i64 op1), (16, .bool (eqI op1 26))] [] <| spc h rfl (fun g47 h => ?_) fun g47 h => ?_
 ·refine zAF <| zAP <| zBE rfl (by simp [g47]) <| cutA 61 0 [(2, .int .i64 3)] [] <| zAB <| zAJ <| zAE ?_
  obtain rfl := oi h
  simp
 refine cutA 61 0 [(3, .int .i64 op1), (16, .bool (eqI op1 27))] [] <| spc h rfl (fun g50 h => ?_) fun g50 h => ?_
 ·refine zAF <| zAP <| zBE rfl (by simp [g50]) <| cutA 61 0 [(2, .int .i64 3)] [] <| zAB <| zAJ <| zAE ?_
  obtain rfl := oi h
  simp
 refine cutA 61 0 [(3, .int .i64 op1), (16, .bool (eqI op1 28))] [] <| spc h rfl (fun g53 h => ?_) fun g53 h => ?_
 ·refine zAF <| zAP <| zBE rfl (by simp [g53]) <| cutA 61 0 [(2, .int .i64 3)] [] <| zAB <| zAJ <| zAE ?_
  obtain rfl := oi h
  simp
 refine cutA 61 0 [(3, .int .i64 op1), (16, .bool (eqI op1 29))] [] <| spc h rfl (fun g56 h => ?_) fun g56 h => ?_
 ·refine zAF <| zAP <| zBE rfl (by simp [g56]) <| cutA 61 0 [(2, .int .i64 3)] [] <| zAB <| zAJ <| zAE ?_
  obtain rfl := oi h
  simp
 refine cutA 61 0 [(3, .int .i64 op1), (16, .bool (eqI op1 31))] [] <| spc h rfl (fun g59 h => ?_) fun g59 h => ?_
 ·refine zAF <| zAP <| zBE rfl (by simp [g59]) <| cutA 61 0 [(2, .int .i64 3)] [] <| zAB <| zAJ <| zAE ?_
  obtain rfl := oi h
  simp
 refine cutA 61 0 [(3, .int .i64 op1), (16, .bool (eqI op1 32))] [] <| spc h rfl (fun g62 h => ?_) fun g62 h => ?_
 ·refine zAF <| zAP <| zBE rfl (by simp [g62]) <| cutA 61 0 [(2, .int .i64 3)] [] <| zAB <| zAJ <| zAE ?_
  obtain rfl := oi h
  simp
 refine cutA 61 0 [(3, .int .i64 op1), (16, .bool (eqI op1 33))] [] <| spc h rfl (fun g65 h => ?_) fun g65 h => ?_
 ·refine zAF <| zAP <| zBE rfl (by simp [g65]) <| cutA 61 0 [(2, .int .i64 3)] [] <| zAB <| zAJ <| zAE ?_
  obtain rfl := oi h
  simp
 refine zEf 61 0 [(3, .int .i64 op1), (16, .bool (eqI op1 34))] [] <| spc h rfl (fun g68 h => ?_) fun g68 h => ?_
 ·have c69 := eqT g68
  refine cutA 61 0 [(2, .int .i64 3)] [] <| zAB <| zAJ <| zAE ?_
  obtain rfl := oi h
  simp
 have c70 := eqF g68
 refine zAM <| cutA 61 0 [(3, .int .i64 op1), (30, .bool (eqI op1 41))] [] <| spc h rfl (fun g71 h => ?_) fun g71 h => ?_
 ·refine zAF <| zAP <| zBE rfl (by simp [g71]) <| cutA 61 0 [(2, .int .i64 4)] [] <| zAB <| zAJ <| zAE ?_
  obtain rfl := oi h
  simp
 refine cutA 61 0 [(3, .int .i64 op1), (30, .bool (eqI op1 42))] [] <| spc h rfl (fun g74 h => ?_) fun g74 h => ?_
 ·refine zAF <| zAP <| zBE rfl (by simp [g74]) <| cutA 61 0 [(2, .int .i64 4)] [] <| zAB <| zAJ <| zAE ?_
  obtain rfl := oi h
  simp
 refine cutA 61 0 [(3, .int .i64 op1), (30, .bool (eqI op1 43))] [] <| spc h rfl (fun g77 h => ?_) fun g77 h => ?_
 ·refine zAF <| zAP <| zBE rfl (by simp [g77]) <| cutA 61 0 [(2, .int .i64 4)] [] <| zAB <| zAJ <| zAE ?_
  obtain rfl := oi h
  simp
 refine cutA 61 0 [(3, .int .i64 op1), (30, .bool (eqI op1 44))] [] <| spc h rfl (fun g80 h => ?_) fun g80 h => ?_
 ·refine zAF <| zAP <| zBE rfl (by simp [g80]) <| cutA 61 0 [(2, .int .i64 4)] [] <| zAB <| zAJ <| zAE ?_
  obtain rfl := oi h
  simp
 refine cutA 61 0 [(3, .int .i64 op1), (30, .bool (eqI op1 46))] [] <| spc h rfl (fun g83 h => ?_) fun g83 h => ?_
 ·refine zAF <| zAP <| zBE rfl (by simp [g83]) <| cutA 61 0 [(2, .int .i64 4)] [] <| zAB <| zAJ <| zAE ?_
  obtain rfl := oi h
  simp
 refine cutA 61 0 [(3, .int .i64 op1), (30, .bool (eqI op1 47))] [] <| spc h rfl (fun g86 h => ?_) fun g86 h => ?_
 ·refine zAF <| zAP <| zBE rfl (by simp [g86]) <| cutA 61 0 [(2, .int .i64 4)] [] <| zAB <| zAJ <| zAE ?_
  obtain rfl := oi h
  simp
 refine cutA 61 0 [(3, .int .i64 op1), (30, .bool (eqI op1 48))] [] <| spc h rfl (fun g89 h => ?_) fun g89 h => ?_
 ·refine zAF <| zAP <| zBE rfl (by simp [g89]) <| cutA 61 0 [(2, .int .i64 4)] [] <| zAB <| zAJ <| zAE ?_
  obtain rfl := oi h
  simp
 refine cutA 61 0 [(3, .int .i64 op1), (30, .bool (eqI op1 49))] [] <| spc h rfl (fun g92 h => ?_) fun g92 h => ?_
 ·refine zAF <| zAP <| zBE rfl (by simp [g92]) <| cutA 61 0 [(2, .int .i64 4)] [] <| zAB <| zAJ <| zAE ?_
  obtain rfl := oi h
  simp
 refine zEf 61 0 [(3, .int .i64 op1), (30, .bool (eqI op1 50))] [] <| spc h rfl (fun g95 h => ?_) fun g95 h => ?_
 ·have c96 := eqT g95
  refine cutA 61 0 [(2, .int .i64 4)] [] <| zAB <| zAJ <| zAE ?_
  obtain rfl := oi h
  simp
 have c97 := eqF g95
 refine zAM <| cutA 61 0 [(3, .int .i64 op1), (40, .bool (eqI op1 61))] [] <| spc h rfl (fun g98 h => ?_) fun g98 h => ?_
 ·refine zAF <| zAP <| zBE rfl (by simp [g98]) <| cutA 61 0 [(2, .int .i64 5)] [] <| zAB <| zAJ <| zAE ?_
  obtain rfl := oi h
  simp
 refine cutA 61 0 [(3, .int .i64 op1), (40, .bool (eqI op1 62))] [] <| spc h rfl (fun g101 h => ?_) fun g101 h => ?_
 ·refine zAF <| zAP <| zBE rfl (by simp [g101]) <| cutA 61 0 [(2, .int .i64 5)] [] <| zAB <| zAJ <| zAE ?_
  obtain rfl := oi h
  simp
 refine cutA 61 0 [(3, .int .i64 op1), (40, .bool (eqI op1 63))] [] <| spc h rfl (fun g104 h => ?_) fun g104 h => ?_
 ·refine zAF <| zAP <| zBE rfl (by simp [g104]) <| cutA 61 0 [(2, .int .i64 5)] [] <| zAB <| zAJ <| zAE ?_
  obtain rfl := oi h
  simp
 refine cutA 61 0 [(3, .int .i64 op1), (40, .bool (eqI op1 64))] [] <| spc h rfl (fun g107 h => ?_) fun g107 h => ?_
 ·refine zAF <| zAP <| zBE rfl (by simp [g107]) <| cutA 61 0 [(2, .int .i64 5)] [] <| zAB <| zAJ <| zAE ?_
  obtain rfl := oi h
  simp
 refine cutA 61 0 [(3, .int .i64 op1), (40, .bool (eqI op1 65))] [] <| spc h rfl (fun g110 h => ?_) fun g110 h => ?_
 ·refine zAF <| zAP <| zBE rfl (by simp [g110]) <| cutA 61 0 [(2, .int .i64 5)] [] <| zAB <| zAJ <| zAE ?_
  obtain rfl := oi h
  simp
 refine zEf 61 0 [(3, .int .i64 op1), (40, .bool (eqI op1 66))] [] <| spc h rfl (fun g113 h => ?_) fun g113 h => ?_
 ·have c114 := eqT g113
  refine cutA 61 0 [(2, .int .i64 5)] [] <| zAB <| zAJ <| zAE ?_
  obtain rfl := oi h
  simp
 have c115 := eqF g113
 refine zAM <| cutA 61 0 [(3, .int .i64 op1), (47, .bool (eqI op1 71))] [] <| spc h rfl (fun g116 h => ?_) fun g116 h => ?_
 ·refine zAF <| zAP <| zBE rfl (by simp [g116]) <| cutA 61 0 [(2, .int .i64 6)] [] <| zAB <| zAJ <| zAE ?_
  obtain rfl := oi h
  simp
 refine cutA 61 0 [(3, .int .i64 op1), (47, .bool (eqI op1 72))] [] <| spc h rfl (fun g119 h => ?_) fun g119 h => ?_
 ·refine zAF <| zAP <| zBE rfl (by simp [g119]) <| cutA 61 0 [(2, .int .i64 6)] [] <| zAB <| zAJ <| zAE ?_
  obtain rfl := oi h
  simp
 refine cutA 61 0 [(3, .int .i64 op1), (47, .bool (eqI op1 73))] [] <| spc h rfl (fun g122 h => ?_) fun g122 h => ?_
 ·refine zAF <| zAP <| zBE rfl (by simp [g122]) <| cutA 61 0 [(2, .int .i64 6)] [] <| zAB <| zAJ <| zAE ?_
  obtain rfl := oi h
  simp
 refine zEf 61 0 [(3, .int .i64 op1), (47, .bool (eqI op1 74))] [] <| spc h rfl (fun g125 h => ?_) fun g125 h => ?_
 ·have c126 := eqT g125
  refine cutA 61 0 [(2, .int .i64 6)] [] <| zAB <| zAJ <| zAE ?_
  obtain rfl := oi h
  simp
 have c127 := eqF g125
 refine zAM <| cutA 61 0 [(3, .int .i64 op1), (52, .bool (eqI op1 81))] [] <| spc h rfl (fun g128 h => ?_) fun g128 h => ?_
 ·refine zAF <| zAP <| zBE rfl (by simp [g128]) <| cutA 61 0 [(2, .int .i64 7)] [] <| zAB <| zAJ <| zAE ?_
  obtain rfl := oi h
  simp
 refine cutA 61 0 [(3, .int .i64 op1), (52, .bool (eqI op1 82))] [] <| spc h rfl (fun g131 h => ?_) fun g131 h => ?_
 ·refine zAF <| zAP <| zBE rfl (by simp [g131]) <| cutA 61 0 [(2, .int .i64 7)] [] <| zAB <| zAJ <| zAE ?_
  obtain rfl := oi h
  simp
 refine cutA 61 0 [(3, .int .i64 op1), (52, .bool (eqI op1 83))] [] <| spc h rfl (fun g134 h => ?_) fun g134 h => ?_
 ·refine zAF <| zAP <| zBE rfl (by simp [g134]) <| cutA 61 0 [(2, .int .i64 7)] [] <| zAB <| zAJ <| zAE ?_
  obtain rfl := oi h
  simp
 refine cutA 61 0 [(3, .int .i64 op1), (52, .bool (eqI op1 84))] [] <| spc h rfl (fun g137 h => ?_) fun g137 h => ?_
 ·refine zAF <| zAP <| zBE rfl (by simp [g137]) <| cutA 61 0 [(2, .int .i64 7)] [] <| zAB <| zAJ <| zAE ?_
  obtain rfl := oi h
  simp
 refine cutA 61 0 [(3, .int .i64 op1), (52, .bool (eqI op1 85))] [] <| spc h rfl (fun g140 h => ?_) fun g140 h => ?_
 ·refine zAF <| zAP <| zBE rfl (by simp [g140]) <| cutA 61 0 [(2, .int .i64 7)] [] <| zAB <| zAJ <| zAE ?_
  obtain rfl := oi h
  simp
 refine cutA 61 0 [(3, .int .i64 op1), (52, .bool (eqI op1 86))] [] <| spc h rfl (fun g143 h => ?_) fun g143 h => ?_
 ·refine zAF <| zAP <| zBE rfl (by simp [g143]) <| cutA 61 0 [(2, .int .i64 7)] [] <| zAB <| zAJ <| zAE ?_
  obtain rfl := oi h
  simp
 refine cutA 61 0 [(3, .int .i64 op1), (52, .bool (eqI op1 87))] [] <| spc h rfl (fun g146 h => ?_) fun g146 h => ?_
 ·refine zAF <| zAP <| zBE rfl (by simp [g146]) <| cutA 61 0 [(2, .int .i64 7)] [] <| zAB <| zAJ <| zAE ?_
  obtain rfl := oi h
  simp
 refine zEf 61 0 [(52, .bool (eqI op1 88))] [] <| spc h rfl (fun g149 h => ?_) fun g149 h => ?_
 ·have c150 := eqT g149
  refine cutA 61 0 [(2, .int .i64 7)] [] <| zAB <| zAJ <| zAE ?_
  obtain rfl := oi h
  simp
 have c151 := eqF g149
 refine zAF <| zCx <| zAP <| cutA 61 0 [(2, .int .i64 0)] [] <| zAB ?_
 obtain rfl := oi h
 simp
theorem zBB (cat1 : Int) (t2 : zJC) (r : Bool) (h : zBU cat1 t2 = some r) : Pure Tryz.prog 36 [.int .i64 cat1, .agg t2.d] (.bool r) := by
 rw [zBU] at h
 refine zAO Tryz.func36 (by rfl) (by rfl) (by simp) (by simp) (by simp) <| cutA 26 0 [(0, .int .i64 cat1), (3, .mptr 0 0)] [t2.d] <| zAM <| cut 26 0 [(0, .int .i64 cat1), (3, .mptr 0 0), (16, .bool ((eqI cat1 5) && ((eqI t2.Op 43) || (eqI t2.Op 44))))] [t2.d] ?_ ?_
 ·rcases tf (eqI cat1 5) with g3 | g3
  ·have c4 := eqT g3
   rcases tf (eqI t2.Op 43) with g5 | g5
   ·have c6 := eqT g5
    refine st ?_
    simp [g3, g5]
   have c7 := eqF g5
   refine st ?_
   simp [g3, g5]
  have c8 := eqF g3
  refine st ?_
  simp [g3]
 rcases sp h with ⟨g9, h⟩ | ⟨g9, h⟩
 ·obtain ⟨g10, g11⟩ := andT g9
  have c12 := eqT g10
  refine zBE rfl g9 <| cutA 26 0 [(4, .bool true)] [t2.d] <| zAB <| zAE ?_
  obtain rfl := oi h
  simp
 refine zGH rfl g9 <| zAF <| zAP ?_
 obtain ⟨b20, q21, h⟩ := bs h
 refine cut 26 0 [(4, .bool b20)] [t2.d] ?_ ?_
 ·rcases sp q21 with ⟨g13, q21⟩ | ⟨g13, q21⟩
  ·have g14 := notT g13
   have c15 := eqF g14
   obtain ⟨v16, q17, q21⟩ := bs q21
   obtain rfl := oi q21
   refine st ?_
   simp [g13]
   have r22 := zG6 t2.Op v16 q17
   try simp [g13] at r22
   refine zAA r22 (by simp) rfl ?_
   simp [g13]
  have g18 := notF g13
  have c19 := eqT g18
  obtain rfl := oi q21
  refine st ?_
  simp [g13]
 refine zAB ?_
 obtain rfl := oi h
 simp
theorem zHo (op1 : Int) (r : zJA) (h : zAS op1 = some r) : Pure Tryz.prog 83 [.int .i64 op1] (.agg [.bool r.n, .bool r.s, .bool r.names]) := by
 rw [zAS] at h
 refine zAO Tryz.func83 (by rfl) (by rfl) (by simp) (by simp) (by simp) <| cutA 48 0 [(0, .int .i64 op1), (2, .mptr 0 0)] [[.bool false, .bool false, .bool false]] <| zAM <| cutA 48 0 [(2, .mptr 0 0), (3, .int .i64 op1)] [[.bool false, .bool false, .bool false]] <| zAU <| zAM <| cutA 48 0 [(2, .mptr 0 0), (3, .int .i64 op1), (4, .bool (eqI op1 13))] [[.bool false, .bool false, .bool false]] ?_
 refine spc h rfl (fun g2 h => ?_) fun g2 h => ?_
 ·refine zAF <| zAP <| zBE rfl (by simp [g2]) <| cutA 48 0 [(2, .mptr 0 0)] [[.bool true, .bool false, .bool false]] <| zAB <| zAJ <| zAE ?_
  obtain rfl := oi h
  simp
 refine cutA 48 0 [(2, .mptr 0 0), (3, .int .i64 op1), (4, .bool (eqI op1 21))] [[.bool false, .bool false, .bool false]] <| spc h rfl (fun g5 h => ?_) fun g5 h => ?_
 ·refine zAF <| zAP <| zBE rfl (by simp [g5]) <| cutA 48 0 [(2, .mptr 0 0)] [[.bool true, .bool false, .bool false]] <| zAB <| zAJ <| zAE ?_
  obtain rfl := oi h
  simp
 refine zEf 48 0 [(2, .mptr 0 0), (3, .int .i64 op1), (4, .bool (eqI op1 32))] [[.bool false, .bool false, .bool false]] <| spc h rfl (fun g8 h => ?_) fun g8 h => ?_
 ·have c9 := eqT g8
  refine cutA 48 0 [(2, .mptr 0 0)] [[.bool true, .bool false, .bool false]] <| zAB <| zAJ <| zAE ?_
  obtain rfl := oi h
  simp
 have c10 := eqF g8
 refine zAM <| cutA 48 0 [(2, .mptr 0 0), (3, .int .i64 op1), (9, .bool (eqI op1 1))] [[.bool false, .bool false, .bool false]] <| spc h rfl (fun g11 h => ?_) fun g11 h => ?_
 ·refine zAF <| zAP <| zBE rfl (by simp [g11]) <| cutA 48 0 [(2, .mptr 0 0)] [[.bool false, .bool true, .bool false]] <| zAB <| zAJ <| zAE ?_
  obtain rfl := oi h
  simp
 refine cutA 48 0 [(2, .mptr 0 0), (3, .int .i64 op1), (9, .bool (eqI op1 12))] [[.bool false, .bool false, .bool false]] <| spc h rfl (fun g14 h => ?_) fun g14 h => ?_
 ·refine zAF <| zAP <| zBE rfl (by simp [g14]) <| cutA 48 0 [(2, .mptr 0 0)] [[.bool false, .bool true, .bool false]] <| zAB <| zAJ <| zAE ?_
  obtain rfl := oi h
  simp
 refine cutA 48 0 [(2, .mptr 0 0), (3, .int .i64 op1), (9, .bool (eqI op1 22))] [[.bool false, .bool false, .bool false]] <| spc h rfl (fun g17 h => ?_) fun g17 h => ?_
 ·refine zAF <| zAP <| zBE rfl (by simp [g17]) <| cutA 48 0 [(2, .mptr 0 0)] [[.bool false, .bool true, .bool false]] <| zAB <| zAJ <| zAE ?_
  obtain rfl := oi h
  simp
 refine cutA 48 0 [(2, .mptr 0 0), (3, .int .i64 op1), (9, .bool (eqI op1 25))] [[.bool false, .bool false, .bool false]] <| spc h rfl (fun g20 h => ?_) fun g20 h => ?_
 ·refine zAF <| zAP <| zBE rfl (by simp [g20]) <| cutA 48 0 [(2, .mptr 0 0)] [[.bool false, .bool true, .bool false]] <| zAB <| zAJ <| zAE ?_
  obtain rfl := oi h
  simp
 refine cutA 48 0 [(2, .mptr 0 0), (3, .int .i64 op1), (9, .bool (eqI op1 41))] [[.bool false, .bool false, .bool false]] <| spc h rfl (fun g23 h => ?_) fun g23 h => ?_
 ·refine zAF <| zAP <| zBE rfl (by simp [g23]) <| cutA 48 0 [(2, .mptr 0 0)] [[.bool false, .bool true, .bool false]] <| zAB <| zAJ <| zAE ?_
  obtain rfl := oi h
  simp
 refine cutA 48 0 [(2, .mptr 0 0), (3, .int .i64 op1), (9, .bool (eqI op1 45))] [[.bool false, .bool false, .bool false]] <| spc h rfl (fun g26 h => ?_) fun g26 h => ?_
 ·refine zAF <| zAP <| zBE rfl (by simp [g26]) <| cutA 48 0 [(2, .mptr 0 0)] [[.bool false, .bool true, .bool false]] <| zAB <| zAJ <| zAE ?_
  obtain rfl := oi h
  simp
 refine cutA 48 0 [(2, .mptr 0 0), (3, .int .i64 op1), (9, .bool (eqI op1 46))] [[.bool false, .bool false, .bool false]] <| spc h rfl (fun g29 h => ?_) fun g29 h => ?_
 ·refine zAF <| zAP <| zBE rfl (by simp [g29]) <| cutA 48 0 [(2, .mptr 0 0)] [[.bool false, .bool true, .bool false]] <| zAB <| zAJ <| zAE ?_
  obtain rfl := oi h
  simp
 refine cutA 48 0 [(2, .mptr 0 0), (3, .int .i64 op1), (9, .bool (eqI op1 47))] [[.bool false, .bool false, .bool false]] <| spc h rfl (fun g32 h => ?_) fun g32 h => ?_
 ·refine zAF <| zAP <| zBE rfl (by simp [g32]) <| cutA 48 0 [(2, .mptr 0 0)] [[.bool false, .bool true, .bool false]] <| zAB <| zAJ <| zAE ?_
  obtain rfl := oi h
  simp
 refine cutA 48 0 [(2, .mptr 0 0), (3, .int .i64 op1), (9, .bool (eqI op1 50))] [[.bool false, .bool false, .bool false]] <| spc h rfl (fun g35 h => ?_) fun g35 h => ?_
 ·refine zAF <| zAP <| zBE rfl (by simp [g35]) <| cutA 48 0 [(2, .mptr 0 0)] [[.bool false, .bool true, .bool false]] <| zAB <| zAJ <| zAE ?_
  obtain rfl := oi h
  simp
 refine cutA 48 0 [(2, .mptr 0 0), (3, .int .i64 op1), (9, .bool (eqI op1 61))] [[.bool false, .bool false, .bool false]] <| spc h rfl (fun g38 h => ?_) fun g38 h => ?_
 ·refine zAF <| zAP <| zBE rfl (by simp [g38]) <| cutA 48 0 [(2, .mptr 0 0)] [[.bool false, .bool true, .bool false]] <| zAB <| zAJ <| zAE ?_
  obtain rfl := oi h
  simp
 refine cutA 48 0 [(2, .mptr 0 0), (3, .int .i64 op1), (9, .bool (eqI op1 63))] [[.bool false, .bool false, .bool false]] <| spc h rfl (fun g41 h => ?_) fun g41 h => ?_
 ·refine zAF <| zAP <| zBE rfl (by simp [g41]) <| cutA 48 0 [(2, .mptr 0 0)] [[.bool false, .bool true, .bool false]] <| zAB <| zAJ <| zAE ?_
  obtain rfl := oi h
  simp
 refine zEf 48 0 [(2, .mptr 0 0), (3, .int .i64 op1), (9, .bool (eqI op1 64))] [[.bool false, .bool false, .bool false]] <| spc h rfl (fun g44 h => ?_) fun g44 h => ?_
 ·have c45 := eqT g44
  refine cutA 48 0 [(2, .mptr 0 0)] [[.bool false, .bool true, .bool false]] <| zAB <| zAJ <| zAE ?_
  obtain rfl := oi h
  simp
 have c46 := eqF g44
 refine zAM <| cutA 48 0 [(2, .mptr 0 0), (3, .int .i64 op1), (23, .bool (eqI op1 2))] [[.bool false, .bool false, .bool false]] <| spc h rfl (fun g47 h => ?_) fun g47 h => ?_
 ·refine zAF <| zAP <| zBE rfl (by simp [g47]) <| cutA 48 0 [(2, .mptr 0 0)] [[.bool false, .bool false, .bool true]] <| zAB <| zAJ <| zAE ?_
  obtain rfl := oi h
  simp
 refine cutA 48 0 [(2, .mptr 0 0), (3, .int .i64 op1), (23, .bool (eqI op1 5))] [[.bool false, .bool false, .bool false]] <| spc h rfl (fun g50 h => ?_) fun g50 h => ?_
 ·refine zAF <| zAP <| zBE rfl (by simp [g50]) <| cutA 48 0 [(2, .mptr 0 0)] [[.bool false, .bool false, .bool true]] <| zAB <| zAJ <| zAE ?_
  obtain rfl := oi h
  simp
 refine cutA 48 0 [(2, .mptr 0 0), (3, .int .i64 op1), (23, .bool (eqI op1 14))] [[.bool false, .bool false, .bool false]] <| spc h rfl (fun g53 h => ?_) fun g53 h => ?_
 ·refine zAF <| zAP <| zBE rfl (by simp [g53]) <| cutA 48 0 [(2, .mptr 0 0)] [[.bool false, .bool false, .bool true]] <| zAB <| zAJ <| zAE ?_
  obtain rfl := oi h
  simp
 refine cutA 48 0 [(2, .mptr 0 0), (3, .int .i64 op1), (23, .bool (eqI op1 23))] [[.bool false, .bool false, .bool false]] <| spc h rfl (fun g56 h => ?_) fun g56 h => ?_
 ·refine zAF <| zAP <| zBE rfl (by simp [g56]) <| cutA 48 0 [(2, .mptr 0 0)] [[.bool false, .bool false, .bool true]] <| zAB <| zAJ <| zAE ?_
  obtain rfl := oi h
  simp
 refine cutA 48 0 [(2, .mptr 0 0), (3, .int .i64 op1), (23, .bool (eqI op1 24))] [[.bool false, .bool false, .bool false]] <| spc h rfl (fun g59 h => ?_) fun g59 h => ?_
 ·refine zAF <| zAP <| zBE rfl (by simp [g59]) <| cutA 48 0 [(2, .mptr 0 0)] [[.bool false, .bool false, .bool true]] <| zAB <| zAJ <| zAE ?_
  obtain rfl := oi h
  simp
 refine cutA 48 0 [(2, .mptr 0 0), (3, .int .i64 op1), (23, .bool (eqI op1 34))] [[.bool false, .bool false, .bool false]] <| spc h rfl (fun g62 h => ?_) fun g62 h => ?_
 ·refine zAF <| zAP <| zBE rfl (by simp [g62]) <| cutA 48 0 [(2, .mptr 0 0)] [[.bool false, .bool false, .bool true]] <| zAB <| zAJ <| zAE ?_
  obtain rfl := oi h
  simp
 refine cutA 48 0 [(2, .mptr 0 0), (3, .int .i64 op1), (23, .bool (eqI op1 48))] [[.bool false, .bool false, .bool false]] <| spc h rfl (fun g65 h => ?_) fun g65 h => ?_
 ·refine zAF <| zAP <| zBE rfl (by simp [g65]) <| cutA 48 0 [(2, .mptr 0 0)] [[.bool false, .bool false, .bool true]] <| zAB <| zAJ <| zAE ?_
  obtain rfl := oi h
  simp
 refine cutA 48 0 [(2, .mptr 0 0), (3, .int .i64 op1), (23, .bool (eqI op1 49))] [[.bool false, .bool false, .bool false]] <| spc h rfl (fun g68 h => ?_) fun g68 h => ?_
 ·refine zAF <| zAP <| zBE rfl (by simp [g68]) <| cutA 48 0 [(2, .mptr 0 0)] [[.bool false, .bool false, .bool true]] <| zAB <| zAJ <| zAE ?_
  obtain rfl := oi h
  simp
 refine cutA 48 0 [(2, .mptr 0 0), (3, .int .i64 op1), (23, .bool (eqI op1 66))] [[.bool false, .bool false, .bool false]] <| spc h rfl (fun g71 h => ?_) fun g71 h => ?_
 ·refine zAF <| zAP <| zBE rfl (by simp [g71]) <| cutA 48 0 [(2, .mptr 0 0)] [[.bool false, .bool false, .bool true]] <| zAB <| zAJ <| zAE ?_
  obtain rfl := oi h
  simp
 refine cutA 48 0 [(2, .mptr 0 0), (3, .int .i64 op1), (23, .bool (eqI op1 72))] [[.bool false, .bool false, .bool false]] <| spc h rfl (fun g74 h => ?_) fun g74 h => ?_
 ·refine zAF <| zAP <| zBE rfl (by simp [g74]) <| cutA 48 0 [(2, .mptr 0 0)] [[.bool false, .bool false, .bool true]] <| zAB <| zAJ <| zAE ?_
  obtain rfl := oi h
  simp
 refine cutA 48 0 [(2, .mptr 0 0), (3, .int .i64 op1), (23, .bool (eqI op1 74))] [[.bool false, .bool false, .bool false]] <| spc h rfl (fun g77 h => ?_) fun g77 h => ?_
 ·refine zAF <| zAP <| zBE rfl (by simp [g77]) <| cutA 48 0 [(2, .mptr 0 0)] [[.bool false, .bool false, .bool true]] <| zAB <| zAJ <| zAE ?_
  obtain rfl := oi h
  simp
 refine zEf 48 0 [(2, .mptr 0 0), (3, .int .i64 op1), (23, .bool (eqI op1 82))] [[.bool false, .bool false, .bool false]] <| spc h rfl (fun g80 h => ?_) fun g80 h => ?_
 ·have c81 := eqT g80
  refine cutA 48 0 [(2, .mptr 0 0)] [[.bool false, .bool false, .bool true]] <| zAB <| zAJ <| zAE ?_
  obtain rfl := oi h
  simp
 have c82 := eqF g80
 refine zAM <| cutA 48 0 [(2, .mptr 0 0), (3, .int .i64 op1), (37, .bool (eqI op1 42))] [[.bool false, .bool false, .bool false]] <| spc h rfl (fun g83 h => ?_) fun g83 h => ?_
 ·refine zAF <| zAP <| zBE rfl (by simp [g83]) <| cutA 48 0 [(2, .mptr 0 0)] [[.bool false, .bool true, .bool true]] <| zAB <| zAJ <| zAE ?_
  obtain rfl := oi h
  simp
 refine cutA 48 0 [(2, .mptr 0 0), (3, .int .i64 op1), (37, .bool (eqI op1 43))] [[.bool false, .bool false, .bool false]] <| spc h rfl (fun g86 h => ?_) fun g86 h => ?_
 ·refine zAF <| zAP <| zBE rfl (by simp [g86]) <| cutA 48 0 [(2, .mptr 0 0)] [[.bool false, .bool true, .bool true]] <| zAB <| zAJ <| zAE ?_
  obtain rfl := oi h
  simp
 refine cutA 48 0 [(2, .mptr 0 0), (3, .int .i64 op1), (37, .bool (eqI op1 44))] [[.bool false, .bool false, .bool false]] <| spc h rfl (fun g89 h => ?_) fun g89 h => ?_
 ·refine zAF <| zAP <| zBE rfl (by simp [g89]) <| cutA 48 0 [(2, .mptr 0 0)] [[.bool false, .bool true, .bool true]] <| zAB <| zAJ <| zAE ?_
  obtain rfl := oi h
  simp
 refine zEf 48 0 [(2, .mptr 0 0), (3, .int .i64 op1), (37, .bool (eqI op1 62))] [[.bool false, .bool false, .bool false]] <| spc h rfl (fun g92 h => ?_) fun g92 h => ?_
 ·have c93 := eqT g92
  refine cutA 48 0 [(2, .mptr 0 0)] [[.bool false, .bool true, .bool true]] <| zAB <| zAJ <| zAE ?_
  obtain rfl := oi h
  simp
 have c94 := eqF g92
 refine zAM <| cutA 48 0 [(2, .mptr 0 0), (3, .int .i64 op1), (43, .bool (eqI op1 73))] [[.bool false, .bool false, .bool false]] <| spc h rfl (fun g95 h => ?_) fun g95 h => ?_
 ·refine zAF <| zAP <| zBE rfl (by simp [g95]) <| cutA 48 0 [(2, .mptr 0 0)] [[.bool true, .bool true, .bool false]] <| zAB <| zAJ <| zAE ?_
  obtain rfl := oi h
  simp
 refine zEf 48 0 [(2, .mptr 0 0), (43, .bool (eqI op1 83))] [[.bool false, .bool false, .bool false]] <| spc h rfl (fun g98 h => ?_) fun g98 h => ?_
 ·have c99 := eqT g98
  refine cutA 48 0 [(2, .mptr 0 0)] [[.bool true, .bool true, .bool false]] <| zAB <| zAJ <| zAE ?_
  obtain rfl := oi h
  simp
 have c100 := eqF g98
 refine zAF <| zCx <| zAP <| cutA 48 0 [(2, .mptr 0 0)] [[.bool false, .bool false, .bool false]] <| zAB ?_
 obtain rfl := oi h
 simp
theorem zFd (s1 : (List UInt8)) (prefix2 : (List UInt8)) (r : Bool) (h : zCe s1 prefix2 = some r) : Pure Tryz.prog 140 [.str s1, .str prefix2] (.bool r) := by
 rw [zCe] at h
 refine zAO Tryz.func140 (by rfl) (by rfl) (by simp) (by simp) (by simp) <| cutA 18 0 [(0, .str s1), (1, .str prefix2)] [] ?_
 obtain ⟨b14, q15, h⟩ := bs h
 refine cut 18 0 [(4, .bool b14)] [] ?_ ?_
 ·rcases sp q15 with ⟨g3, q15⟩ | ⟨g3, q15⟩
  ·have c4 := leT g3
   refine zGX 1 rfl fun f5 => ?_
   refine zGX 0 rfl fun f6 => ?_
   obtain ⟨s7, q8, q15⟩ := bs q15
   obtain ⟨q9, q10⟩ := zEW q8
   try simp at q9
   try simp at q10
   obtain rfl := oi q15
   refine st ?_
   simp [g3, q9, q10]
  have c11 := leF g3
  refine zGX 1 rfl fun f12 => ?_
  refine zGX 0 rfl fun f13 => ?_
  obtain rfl := oi q15
  refine st ?_
  simp [g3]
 refine zAB ?_
 obtain rfl := oi h
 simp
theorem zFe (s1 : (List UInt8)) (prefix2 : (List UInt8)) (r : (List UInt8) × Bool) (h : zDJ s1 prefix2 = some r) : Pure Tryz.prog 126 [.str s1, .str prefix2] (.tup [.str r.1, .bool r.2]) := by
 rw [zDJ] at h
 refine zAO Tryz.func126 (by rfl) (by rfl) (by simp) (by simp) (by simp) <| cutA 15 0 [(0, .str s1), (1, .str prefix2)] [] <| zAM ?_
 obtain ⟨v3, q4, h⟩ := bs h
 refine cut 15 0 [(0, .str s1), (1, .str prefix2), (9, .bool (!v3))] [] ?_ ?_
 ·refine st ?_
  simp
  have r12 := zFd s1 prefix2 v3 q4
  try simp at r12
  refine zAA r12 (by simp) rfl ?_
  simp
 refine spc h rfl (fun g5 h => ?_) fun g5 h => ?_
 ·have g6 := notT g5
  refine cutA 15 0 [(4, .str s1), (5, .bool false)] [] <| zAB <| zAE ?_
  obtain rfl := oi h
  simp
 have g7 := notF g5
 refine zAF <| zAP ?_
 obtain ⟨s8, q9, h⟩ := bs h
 obtain ⟨q10, q11⟩ := zEW q9
 try simp at q10
 try simp at q11
 refine cut 15 0 [(4, .str s8), (5, .bool true)] [] (st (by simp [q10, q11])) <| zAB ?_
 obtain rfl := oi h
 simp
theorem zGR (s1 : (List UInt8)) (prefix2 : (List UInt8)) (r : (List UInt8) × Bool) (h : zDj s1 prefix2 = some r) : Pure Tryz.prog 106 [.str s1, .str prefix2] (.tup [.str r.1, .bool r.2]) := by
 rw [zDj] at h
 refine zAO Tryz.func106 (by rfl) (by rfl) (by simp) (by simp) (by simp) <| cutA 11 0 [(0, .str s1), (1, .str prefix2)] [] ?_
 obtain ⟨v3, q4, h⟩ := bs h
 refine cut 11 0 [(4, .str v3.1), (5, .bool v3.2)] [] ?_ ?_
 ·refine st ?_
  simp
  have r5 := zFe s1 prefix2 v3 q4
  try simp at r5
  refine zAA r5 (by simp) rfl ?_
  simp
 refine zAB ?_
 obtain rfl := oi h
 simp
theorem zIZ (c1 : UInt8) (r : Int) (h : zE5 c1 = some r) : Pure Tryz.prog 80 [.int .u8 c1.toNat] (.int .i64 r) := by
 rw [zE5] at h
 refine zAO Tryz.func80 (by rfl) (by rfl) (by simp) (by simp) (by simp) <| cutA 30 0 [(0, .int .u8 c1.toNat)] [] <| zAM <| zAU <| cut 30 0 [(0, .int .u8 c1.toNat), (3, .bool ((leI 97 (c1.toNat : Int)) && (leI (c1.toNat : Int) 122)))] [] ?_ ?_
 ·rcases tf (leI 97 (c1.toNat : Int)) with g2 | g2
  ·have c3 := leT g2
   refine st ?_
   simp [g2]
  have c4 := leF g2
  refine st ?_
  simp [g2]
 rcases sp h with ⟨g5, h⟩ | ⟨g5, h⟩
 ·obtain ⟨g6, g7⟩ := andT g5
  have c8 := leT g6
  have c9 := leT g7
  refine zBE rfl g5 <| cutA 30 0 [(2, .int .i64 1)] [] <| zAB <| zAJ <| zAE ?_
  obtain rfl := oi h
  simp
 refine zGH rfl g5 <| cut 30 0 [(0, .int .u8 c1.toNat), (10, .bool ((leI 65 (c1.toNat : Int)) && (leI (c1.toNat : Int) 90)))] [] ?_ ?_
 ·rcases tf (leI 65 (c1.toNat : Int)) with g10 | g10
  ·have c11 := leT g10
   refine st ?_
   simp [g10]
  have c12 := leF g10
  refine st ?_
  simp [g10]
 rcases sp h with ⟨g13, h⟩ | ⟨g13, h⟩
 ·obtain ⟨g14, g15⟩ := andT g13
  have c16 := leT g14
  have c17 := leT g15
  refine zBE rfl g13 <| cutA 30 0 [(2, .int .i64 2)] [] <| zAB <| zAJ <| zAE ?_
  obtain rfl := oi h
  simp
 refine zGH rfl g13 <| cut 30 0 [(0, .int .u8 c1.toNat), (17, .bool ((leI 48 (c1.toNat : Int)) && (leI (c1.toNat : Int) 57)))] [] ?_ ?_
 ·rcases tf (leI 48 (c1.toNat : Int)) with g18 | g18
  ·have c19 := leT g18
   refine st ?_
   simp [g18]
  have c20 := leF g18
  refine st ?_
  simp [g18]
 rcases sp h with ⟨g21, h⟩ | ⟨g21, h⟩
 ·obtain ⟨g22, g23⟩ := andT g21
  have c24 := leT g22
  have c25 := leT g23
  refine zBE rfl g21 <| cutA 30 0 [(2, .int .i64 3)] [] <| zAB <| zAJ <| zAE ?_
  obtain rfl := oi h
  simp
 refine zGH rfl g21 <| cutA 30 0 [(0, .int .u8 c1.toNat), (24, .bool (eqI (c1.toNat : Int) 95))] [] <| spc h rfl (fun g26 h => ?_) fun g26 h => ?_
 ·have c27 := eqT g26
  refine cutA 30 0 [(2, .int .i64 4)] [] <| zAB <| zAJ <| zAE ?_
  obtain rfl := oi h
  simp
 have c28 := eqF g26
 refine cutA 30 0 [(27, .bool (eqI (c1.toNat : Int) 46))] [] <| spc h rfl (fun g29 h => ?_) fun g29 h => ?_
 ·have c30 := eqT g29
  refine cutA 30 0 [(2, .int .i64 5)] [] <| zAB <| zAJ <| zAE ?_
  obtain rfl := oi h
  simp
 have c31 := eqF g29
 refine zAF <| zCx <| zAP <| cutA 30 0 [(2, .int .i64 0)] [] <| zAB ?_
 obtain rfl := oi h
 simp
theorem zFN (fuel : Nat) (s1 : (List UInt8)) (first2 : Int) (r : Bool) (h : zDS fuel s1 first2 = some r) : Pure Tryz.prog 50 [.str s1, .int .i64 first2] (.bool r) := by
 rw [zDS] at h
 refine zAO Tryz.func50 (by rfl) (by rfl) (by simp) (by simp) (by simp) <| cutA 38 0 [(0, .str s1), (1, .int .i64 first2)] [] <| zAM ?_
 obtain ⟨b13, q14, h⟩ := bs h
 refine cut 38 0 [(0, .str s1), (21, .bool b13)] [] ?_ ?_
 ·rcases sp q14 with ⟨g3, q14⟩ | ⟨g3, q14⟩
  ·obtain rfl := oi q14
   refine st ?_
   simp [g3]
  rcases sp q14 with ⟨g4, q14⟩ | ⟨g4, q14⟩
  ·have c5 := ltT g4
   refine zGX 0 rfl fun f6 => ?_
   obtain rfl := oi q14
   refine st ?_
   simp [g3, g4]
  have c7 := ltF g4
  refine zGX 0 rfl fun f8 => ?_
  obtain ⟨c9, q10, q14⟩ := bs q14
  obtain ⟨v11, q12, q14⟩ := bs q14
  obtain rfl := oi q14
  refine st ?_
  simp [g3, g4, q10]
  have r46 := zIZ c9 v11 q12
  try simp [g3, g4, q10] at r46
  refine zAA r46 (by simp) rfl ?_
  simp [g3, g4, q10]
 refine spc h rfl (fun g15 h => ?_) fun g15 h => ?_
 ·refine cutA 38 0 [(4, .bool false)] [] <| zAB <| zAE ?_
  obtain rfl := oi h
  simp
 refine zAF <| zAP <| zAM ?_
 obtain ⟨l16, q17, h⟩ := bs h
 obtain ⟨q18, q19⟩ := bytesC_ok q17
 refine cut 38 0 [(23, .sl (l16.map cU)), (24, .int .i64 l16.length), (25, .int .i64 0)] [] (st (by simp [q18, q19])) <| zAU ?_
 obtain ⟨o22, l23, h⟩ := bs h
 refine zB2 (fun p : Nat × Nat => mkS 38 0 [(23, .sl (l16.map cU)), (24, .int .i64 l16.length), (25, .int .i64 p.2)] []) (fun p => zDG l16 p.1 p.2 = some o22) (fun p => p.1) (fuel, 0) l23 (zBS (by simp)) ?_
 rintro ⟨k24, i20⟩ l23
 dsimp only at l23 ⊢
 cases k24 with
 | zero =>
  rw [zDG] at l23; cases l23
 | succ k25 =>
  rw [zDG] at l23
  refine cutA 38 0 [(23, .sl (l16.map cU)), (24, .int .i64 l16.length), (25, .int .i64 i20), (26, .bool (ltI ((i20 : Nat) : Int) (l16.length : Int)))] [] <| zAM <| spc l23 rfl (fun g26 l23 => ?_) fun g26 l23 => ?_
  ·have c27 := ltT g26
   refine zD3 23 rfl fun f28 => ?_
   rw [List.length_map] at f28
   refine zAF <| zAP <| zAM <| zAU ?_
   obtain ⟨x29, q30, l23⟩ := bs l23
   refine cut 38 0 [(6, .int .u8 x29.toNat), (23, .sl (l16.map cU)), (24, .int .i64 l16.length), (25, .int .i64 i20)] [] (st (by simp [q30])) ?_
   obtain ⟨v31, q32, l23⟩ := bs l23
   refine cut 38 0 [(7, .int .i64 v31), (23, .sl (l16.map cU)), (24, .int .i64 l16.length), (25, .int .i64 i20)] [] ?_ ?_
   ·refine st ?_
    simp
    have r42 := zIZ x29 v31 q32
    try simp at r42
    refine zAA r42 (by simp) rfl ?_
    simp
   refine cut 38 0 [(23, .sl (l16.map cU)), (24, .int .i64 l16.length), (25, .int .i64 i20), (36, .bool ((eqI v31 0) || (eqI v31 5)))] [] ?_ ?_
   ·rcases tf (eqI v31 0) with g33 | g33
    ·have c34 := eqT g33
     refine st ?_
     simp [g33]
    have c35 := eqF g33
    refine st ?_
    simp [g33]
   rcases sp l23 with ⟨g36, l23⟩ | ⟨g36, l23⟩
   ·refine zBE rfl g36 <| cutA 38 0 [(4, .bool false)] [] <| zAB <| zAJ <| zAE ?_
    replace h := retL l23 h
    refine zAE <| zAJ <| zAE ?_
    obtain rfl := oi h
    simp
   obtain ⟨g37, g38⟩ := orF g36
   have c39 := eqF g37
   have c40 := eqF g38
   refine zGH rfl g36 <| zAF <| zCx <| zAP ?_
   have q41 : Rng .i64 (((i20 : Nat) : Int) + 1) := by simp only [Rng, inR]; omega
   try simp at q41
   refine last 38 0 [(23, .sl (l16.map cU)), (24, .int .i64 l16.length), (25, .int .i64 ((i20 + 1 : Nat) : Int))] [] (st (by simp [q41])) fun zz hs => ?_
   exact ⟨(k25, i20 + 1), hs, l23, by simp⟩
  have c43 := ltF g26
  refine zD3 23 rfl fun f44 => ?_
  rw [List.length_map] at f44
  refine zBR <| zAc ?_
  rcases o22 with o22 | o21
  ·cases l23
  have q45 := Sum.inr.inj (Option.some.inj l23)
  replace h := zFp h
  refine zAc <| zBQ <| zBT (t := mkS 38 0 [] []) ?_ (zBS (by simp))
  refine cutA 38 0 [(4, .bool true)] [] <| zAB ?_
  obtain rfl := oi h
  simp
theorem zFh (fuel : Nat) (s1 : (List UInt8)) (r : Bool) (h : zDs fuel s1 = some r) : Pure Tryz.prog 84 [.str s1] (.bool r) := by
 rw [zDs] at h
 refine zAO Tryz.func84 (by rfl) (by rfl) (by simp) (by simp) (by simp) <| cutA 20 0 [(0, .str s1)] [] ?_
 obtain ⟨v2, q3, h⟩ := bs h
 refine cut 20 0 [(0, .str s1), (3, .str v2.1), (4, .bool v2.2)] [] ?_ ?_
 ·refine st ?_
  simp
  have r15 := zGR s1 [39] v2 q3
  try simp at r15
  refine zAA r15 (by simp) rfl ?_
  simp
 obtain ⟨b12, q13, h⟩ := bs h
 refine cut 20 0 [(2, .bool b12)] [] ?_ ?_
 ·rcases sp q13 with ⟨g4, q13⟩ | ⟨g4, q13⟩
  ·rcases sp q13 with ⟨g5, q13⟩ | ⟨g5, q13⟩
   ·have c6 := leT g5
    refine zGX 0 rfl fun f7 => ?_
    obtain ⟨v8, q9, q13⟩ := bs q13
    obtain rfl := oi q13
    refine st ?_
    simp [g4, g5]
    have r14 := zFN fuel v2.1 1 v8 q9
    try simp [g4, g5] at r14
    refine zAA r14 (by simp) rfl ?_
    simp [g4, g5]
   have c10 := leF g5
   refine zGX 0 rfl fun f11 => ?_
   obtain rfl := oi q13
   refine st ?_
   simp [g4, g5]
  obtain rfl := oi q13
  refine st ?_
  simp [g4]
 refine zAB ?_
 obtain rfl := oi h
 simp
theorem zA4 (fuel : Nat) (s1 : (List UInt8)) (r : Bool) (h : zBP fuel s1 = some r) : Pure Tryz.prog 30 [.str s1] (.bool r) := by
 rw [zBP] at h
 refine zAO Tryz.func30 (by rfl) (by rfl) (by simp) (by simp) (by simp) <| cutA 5 0 [(0, .str s1)] [] ?_
 obtain ⟨v2, q3, h⟩ := bs h
 refine cut 5 0 [(2, .bool v2)] [] ?_ ?_
 ·refine st ?_
  simp
  have r4 := zFN fuel s1 2 v2 q3
  try simp at r4
  refine zAA r4 (by simp) rfl ?_
  simp
 refine zAB ?_
 obtain rfl := oi h
 simp
theorem zFs (fuel : Nat) (s1 : (List (List UInt8))) (v2 : (List UInt8)) (r : Int) (h : zDU fuel s1 v2 = some r) : Pure Tryz.prog 51 [.sl (s1.map cS), .str v2] (.int .i64 r) := by
 rw [zDU] at h
 refine zAO Tryz.func51 (by rfl) (by rfl) (by simp) (by simp) (by simp) <| cutA 19 0 [(0, .sl (s1.map cS)), (1, .str v2)] [] <| zAM <| cutA 19 0 [(0, .sl (s1.map cS)), (1, .str v2), (7, .int .i64 s1.length), (8, .int .i64 0)] [] <| zAU ?_
 obtain ⟨o5, l6, h⟩ := bs h
 refine zB2 (fun p : Nat × Nat => mkS 19 0 [(0, .sl (s1.map cS)), (1, .str v2), (7, .int .i64 s1.length), (8, .int .i64 p.2)] []) (fun p => zBZ s1 v2 p.1 p.2 = some o5) (fun p => p.1) (fuel, 0) l6 (zBS (by simp)) ?_
 rintro ⟨k7, i3⟩ l6
 dsimp only at l6 ⊢
 cases k7 with
 | zero =>
  rw [zBZ] at l6; cases l6
 | succ k8 =>
  rw [zBZ] at l6
  refine cutA 19 0 [(0, .sl (s1.map cS)), (1, .str v2), (7, .int .i64 s1.length), (8, .int .i64 i3), (9, .bool (ltI ((i3 : Nat) : Int) (s1.length : Int)))] [] <| zAM <| spc l6 rfl (fun g9 l6 => ?_) fun g9 l6 => ?_
  ·have c10 := ltT g9
   refine zD3 0 rfl fun f11 => ?_
   rw [List.length_map] at f11
   refine zAF <| zAP <| zAM <| zAU <| cutA 19 0 [(0, .sl (s1.map cS)), (1, .str v2), (5, .int .i64 i3), (7, .int .i64 s1.length), (8, .int .i64 i3)] [] ?_
   obtain ⟨x12, q13, l6⟩ := bs l6
   refine cut 19 0 [(0, .sl (s1.map cS)), (1, .str v2), (5, .int .i64 i3), (7, .int .i64 s1.length), (8, .int .i64 i3), (16, .bool (eqS v2 x12))] [] (st (by simp [q13])) <| spc l6 rfl (fun g14 l6 => ?_) fun g14 l6 => ?_
   ·refine cutA 19 0 [(4, .int .i64 i3)] [] <| zAB <| zAJ <| zAE ?_
    replace h := retL l6 h
    refine zAE <| zAJ <| zAE ?_
    obtain rfl := oi h
    simp
   refine zAF <| zCx <| zAP ?_
   have q15 : Rng .i64 (((i3 : Nat) : Int) + 1) := by simp only [Rng, inR]; omega
   try simp at q15
   refine last 19 0 [(0, .sl (s1.map cS)), (1, .str v2), (7, .int .i64 s1.length), (8, .int .i64 ((i3 + 1 : Nat) : Int))] [] (st (by simp [q15])) fun zz hs => ?_
   exact ⟨(k8, i3 + 1), hs, l6, by simp⟩
  have c16 := ltF g9
  refine zD3 0 rfl fun f17 => ?_
  rw [List.length_map] at f17
  refine zBR <| zAc ?_
  rcases o5 with o5 | o4
  ·cases l6
  have q18 := Sum.inr.inj (Option.some.inj l6)
  replace h := zFp h
  refine zAc <| zBQ <| zBT (t := mkS 19 0 [] []) ?_ (zBS (by simp))
  refine cutA 19 0 [(4, .int .i64 (-1))] [] <| zAB ?_
  obtain rfl := oi h
  simp
theorem zDW (fuel : Nat) (s1 : (List (List UInt8))) (v2 : (List UInt8)) (r : Bool) (h : zBa fuel s1 v2 = some r) : Pure Tryz.prog 31 [.sl (s1.map cS), .str v2] (.bool r) := by
 rw [zBa] at h
 refine zAO Tryz.func31 (by rfl) (by rfl) (by simp) (by simp) (by simp) <| cutA 9 0 [(0, .sl (s1.map cS)), (1, .str v2)] [] ?_
 obtain ⟨v3, q4, h⟩ := bs h
 refine cut 9 0 [(4, .bool (leI 0 v3))] [] ?_ ?_
 ·refine st ?_
  simp
  have r5 := zFs fuel s1 v2 v3 q4
  try simp at r5
  refine zAA r5 (by simp) rfl ?_
  simp
 refine zAB ?_
 obtain rfl := oi h
 simp
theorem ident_word_ok (fuel : Nat) (s1 : (List UInt8)) (r : Bool) (h : zFG fuel s1 = some r) : Pure Tryz.prog 108 [.str s1] (.bool r) := by
 rw [zFG] at h
 refine zAO Tryz.func108 (by rfl) (by rfl) (by simp) (by simp) (by simp) <| cutA 6 0 [(0, .str s1)] [] ?_
 obtain ⟨v2, q3, h⟩ := bs h
 obtain ⟨v4, q5, h⟩ := bs h
 refine cut 6 0 [(2, .bool v4)] [] ?_ ?_
 ·refine st ?_
  simp
  have r6 := zHW [97, 110, 100, 97, 108, 115, 111, 32, 99, 97, 115, 101, 32, 100, 97, 116, 97, 32, 100, 105, 118, 32, 101, 108, 115, 101, 32, 101, 110, 100, 32, 102, 110, 32, 102, 117, 110, 32, 102, 117, 110, 99, 116, 111, 114, 32, 103, 101, 110, 101, 114, 97, 116, 105, 118, 101, 32, 105, 102, 32, 105, 109, 112, 111, 114, 116, 32, 105, 110, 32, 105, 110, 99, 108, 117, 100, 101, 32, 108, 101, 116, 32, 109, 111, 100, 32, 109, 111, 100, 117, 108, 101, 32, 111, 102, 32, 111, 112, 101, 110, 32, 111, 114, 101, 108, 115, 101, 32, 112, 97, 99, 107, 32, 115, 104, 97, 114, 105, 110, 103, 32, 115, 105, 103, 32, 115, 105, 103, 110, 97, 116, 117, 114, 101, 32, 115, 116, 114, 117, 99, 116, 32, 115, 116, 114, 117, 99, 116, 117, 114, 101, 32, 116, 104, 101, 110, 32, 116, 121, 112, 101, 32, 117, 110, 112, 97, 99, 107, 32, 118, 97, 108, 32, 119, 105, 116, 104] v2 q3
  try simp at r6
  refine zAA r6 (by simp) rfl ?_
  simp
  have r7 := zDW fuel v2 s1 v4 q5
  try simp at r7
  refine zAA r7 (by simp) rfl ?_
  simp
 refine zAB ?_
 obtain rfl := oi h
 simp
theorem zBK (fuel : Nat) (s1 : (List UInt8)) (r : Bool) (h : zBd fuel s1 = some r) : Pure Tryz.prog 86 [.str s1] (.bool r) := by
 rw [zBd] at h
 refine zAO Tryz.func86 (by rfl) (by rfl) (by simp) (by simp) (by simp) <| cutA 10 0 [(0, .str s1)] [] ?_
 obtain ⟨b7, q8, h⟩ := bs h
 refine cut 10 0 [(2, .bool b7)] [] ?_ ?_
 ·obtain ⟨v2, q3, q8⟩ := bs q8
  rcases sp q8 with ⟨g4, q8⟩ | ⟨g4, q8⟩
  ·obtain ⟨v5, q6, q8⟩ := bs q8
   obtain rfl := oi q8
   refine st ?_
   simp [g4]
   have r9 := zFN fuel s1 1 v2 q3
   try simp [g4] at r9
   refine zAA r9 (by simp) rfl ?_
   simp [g4]
   have r10 := ident_word_ok fuel s1 v5 q6
   try simp [g4] at r10
   refine zAA r10 (by simp) rfl ?_
   simp [g4]
  obtain rfl := oi q8
  refine st ?_
  simp [g4]
  have r11 := zFN fuel s1 1 v2 q3
  try simp [g4] at r11
  refine zAA r11 (by simp) rfl ?_
  simp [g4]
 refine zAB ?_
 obtain rfl := oi h
 simp
theorem zHk (fuel : Nat) (s1 : (List UInt8)) (r : Bool) (h : zEB fuel s1 = some r) : Pure Tryz.prog 107 [.str s1] (.bool r) := by
 rw [zEB] at h
 refine zAO Tryz.func107 (by rfl) (by rfl) (by simp) (by simp) (by simp) <| cutA 6 0 [(0, .str s1)] [] ?_
 obtain ⟨v2, q3, h⟩ := bs h
 refine cut 6 0 [(2, .bool (!v2))] [] ?_ ?_
 ·refine st ?_
  simp
  have r4 := zA4 fuel s1 v2 q3
  try simp at r4
  refine zAA r4 (by simp) rfl ?_
  simp
 refine zAB ?_
 obtain rfl := oi h
 simp
theorem zEk (fuel : Nat) (s1 : (List (List UInt8))) (r : Int) (h : zCC fuel s1 = some r) : Pure Tryz.prog 109 [.sl (s1.map cS), .fn (.func 107) [] []] (.int .i64 r) := by
 rw [zCC] at h
 refine zAO Tryz.func109 (by rfl) (by rfl) (by simp) (by simp) (by simp) <| cutA 19 0 [(0, .sl (s1.map cS)), (1, .fn (.func 107) [] [])] [] <| zAM <| cutA 19 0 [(0, .sl (s1.map cS)), (1, .fn (.func 107) [] []), (7, .int .i64 s1.length), (8, .int .i64 0)] [] <| zAU ?_
 obtain ⟨o4, l5, h⟩ := bs h
 refine zB2 (fun p : Nat × Nat => mkS 19 0 [(0, .sl (s1.map cS)), (1, .fn (.func 107) [] []), (7, .int .i64 s1.length), (8, .int .i64 p.2)] []) (fun p => zAw fuel s1 p.1 p.2 = some o4) (fun p => p.1) (fuel, 0) l5 (zBS (by simp)) ?_
 rintro ⟨k6, i2⟩ l5
 dsimp only at l5 ⊢
 cases k6 with
 | zero =>
  rw [zAw] at l5; cases l5
 | succ k7 =>
  rw [zAw] at l5
  refine cutA 19 0 [(0, .sl (s1.map cS)), (1, .fn (.func 107) [] []), (7, .int .i64 s1.length), (8, .int .i64 i2), (9, .bool (ltI ((i2 : Nat) : Int) (s1.length : Int)))] [] <| zAM <| spc l5 rfl (fun g8 l5 => ?_) fun g8 l5 => ?_
  ·have c9 := ltT g8
   refine zD3 0 rfl fun f10 => ?_
   rw [List.length_map] at f10
   refine zAF <| zAP <| zAM <| zAU <| cutA 19 0 [(0, .sl (s1.map cS)), (1, .fn (.func 107) [] []), (5, .int .i64 i2), (7, .int .i64 s1.length), (8, .int .i64 i2)] [] ?_
   obtain ⟨x11, q12, l5⟩ := bs l5
   obtain ⟨v13, q14, l5⟩ := bs l5
   refine cut 19 0 [(0, .sl (s1.map cS)), (1, .fn (.func 107) [] []), (5, .int .i64 i2), (7, .int .i64 s1.length), (8, .int .i64 i2), (16, .bool v13)] [] ?_ ?_
   ·refine st ?_
    simp [q12]
    have r17 := zHk fuel x11 v13 q14
    try simp [q12] at r17
    refine zAA r17 (by simp) rfl ?_
    simp [q12]
   refine spc l5 rfl (fun g15 l5 => ?_) fun g15 l5 => ?_
   ·refine cutA 19 0 [(4, .int .i64 i2)] [] <| zAB <| zAJ <| zAE ?_
    replace h := retL l5 h
    refine zAE <| zAJ <| zAE ?_
    obtain rfl := oi h
    simp
   refine zAF <| zCx <| zAP ?_
   have q16 : Rng .i64 (((i2 : Nat) : Int) + 1) := by simp only [Rng, inR]; omega
   try simp at q16
   refine last 19 0 [(0, .sl (s1.map cS)), (1, .fn (.func 107) [] []), (7, .int .i64 s1.length), (8, .int .i64 ((i2 + 1 : Nat) : Int))] [] (st (by simp [q16])) fun zz hs => ?_
   exact ⟨(k7, i2 + 1), hs, l5, by simp⟩
  have c18 := ltF g8
  refine zD3 0 rfl fun f19 => ?_
  rw [List.length_map] at f19
  refine zBR <| zAc ?_
  rcases o4 with o4 | o3
  ·cases l5
  have q20 := Sum.inr.inj (Option.some.inj l5)
  replace h := zFp h
  refine zAc <| zBQ <| zBT (t := mkS 19 0 [] []) ?_ (zBS (by simp))
  refine cutA 19 0 [(4, .int .i64 (-1))] [] <| zAB ?_
  obtain rfl := oi h
  simp
theorem zEK (fuel : Nat) (s1 : (List (List UInt8))) (r : Bool) (h : zBY fuel s1 = some r) : Pure Tryz.prog 88 [.sl (s1.map cS), .fn (.func 107) [] []] (.bool r) := by
 rw [zBY] at h
 refine zAO Tryz.func88 (by rfl) (by rfl) (by simp) (by simp) (by simp) <| cutA 9 0 [(0, .sl (s1.map cS)), (1, .fn (.func 107) [] [])] [] ?_
 obtain ⟨v2, q3, h⟩ := bs h
 refine cut 9 0 [(4, .bool (leI 0 v2))] [] ?_ ?_
 ·refine st ?_
  simp
  have r4 := zEk fuel s1 v2 q3
  try simp at r4
  refine zAA r4 (by simp) rfl ?_
  simp
 refine zAB ?_
 obtain rfl := oi h
 simp
theorem zCM (fuel : Nat) (l1 : (List (List UInt8))) (lower2 : Bool) (r : Bool) (h : zBo fuel l1 lower2 = some r) : Pure Tryz.prog 85 [.sl (l1.map cS), .bool lower2] (.bool r) := by
 rw [zBo] at h
 refine zAO Tryz.func85 (by rfl) (by rfl) (by simp) (by simp) (by simp) <| cutA 32 0 [(0, .sl (l1.map cS)), (1, .bool lower2)] [] <| zAM <| cut 32 0 [(0, .sl (l1.map cS)), (1, .bool lower2), (13, .bool ((ltI (l1.length : Int) 1) || (ltI 8 (l1.length : Int))))] [] ?_ ?_
 ·rcases tf (ltI (l1.length : Int) 1) with g3 | g3
  ·have c4 := ltT g3
   refine zD3 0 rfl fun f5 => ?_
   rw [List.length_map] at f5
   refine st ?_
   simp [g3]
  have c6 := ltF g3
  refine zD3 0 rfl fun f7 => ?_
  rw [List.length_map] at f7
  refine st ?_
  simp [g3]
 rcases sp h with ⟨g8, h⟩ | ⟨g8, h⟩
 ·refine zBE rfl g8 <| cutA 32 0 [(4, .bool false)] [] <| zAB <| zAE ?_
  obtain rfl := oi h
  simp
 obtain ⟨g9, g10⟩ := orF g8
 have c11 := ltF g9
 have c13 := ltF g10
 refine zGH rfl g8 <| zD3 0 rfl fun f12 => ?_
 rw [List.length_map] at f12
 refine zAF <| zAP ?_
 have q14 : Rng .i64 ((l1.length : Int) - 1) := by simp only [Rng, inR]; omega
 try simp at q14
 refine cut 32 0 [(0, .sl (l1.map cS)), (1, .bool lower2), (5, .int .i64 ((l1.length : Int) - 1))] [] (st (by simp [q14])) <| zAM ?_
 obtain ⟨l15, q16, h⟩ := bs h
 obtain ⟨q17, q18⟩ := zEW q16
 try simp at q17
 try simp at q18
 obtain ⟨v19, q20, h⟩ := bs h
 refine cut 32 0 [(0, .sl (l1.map cS)), (1, .bool lower2), (5, .int .i64 ((l1.length : Int) - 1)), (20, .bool v19)] [] ?_ ?_
 ·refine st ?_
  simp [q17, q18]
  have r37 := zEK fuel l15 v19 q20
  try simp [q17, q18] at r37
  refine zAA r37 (by simp) rfl ?_
  simp [q17, q18]
 refine spc h rfl (fun g21 h => ?_) fun g21 h => ?_
 ·refine cutA 32 0 [(4, .bool false)] [] <| zAB <| zAE ?_
  obtain rfl := oi h
  simp
 refine zAF <| zAP <| zAM <| cutA 32 0 [(0, .sl (l1.map cS)), (5, .int .i64 ((l1.length : Int) - 1)), (21, .bool lower2)] [] <| spc h rfl (fun g22 h => ?_) fun g22 h => ?_
 ·obtain ⟨x23, q24, h⟩ := bs h
  obtain ⟨q25, q26⟩ := idxp_ok q24
  obtain ⟨v27, q28, h⟩ := bs h
  refine cut 32 0 [(4, .bool v27)] [] ?_ ?_
  ·refine st ?_
   simp [q25, q26]
   have r29 := zBK fuel x23 v27 q28
   try simp [q25, q26] at r29
   refine zAA r29 (by simp) rfl ?_
   simp [q25, q26]
  refine zAB <| zAE ?_
  obtain rfl := oi h
  simp
 refine zAF <| zAP ?_
 obtain ⟨x30, q31, h⟩ := bs h
 obtain ⟨q32, q33⟩ := idxp_ok q31
 obtain ⟨v34, q35, h⟩ := bs h
 refine cut 32 0 [(4, .bool v34)] [] ?_ ?_
 ·refine st ?_
  simp [q32, q33]
  have r36 := zA4 fuel x30 v34 q35
  try simp [q32, q33] at r36
  refine zAA r36 (by simp) rfl ?_
  simp [q32, q33]
 refine zAB ?_
 obtain rfl := oi h
 simp
theorem zIF (fuel : Nat) (s1 : (List UInt8)) (r : Bool) (h : zDx fuel s1 = some r) : Pure Tryz.prog 87 [.str s1] (.bool r) := by
 rw [zDx] at h
 refine zAO Tryz.func87 (by rfl) (by rfl) (by simp) (by simp) (by simp) <| cutA 29 0 [(0, .str s1)] [] <| zAM <| cutA 29 0 [(0, .str s1), (5, .int .i64 s1.length), (6, .int .i64 0)] [] <| zAU ?_
 obtain ⟨o4, l5, h⟩ := bs h
 refine zB2 (fun p : Nat × Nat => mkS 29 0 [(0, .str s1), (5, .int .i64 s1.length), (6, .int .i64 p.2)] []) (fun p => zCX s1 p.1 p.2 = some o4) (fun p => p.1) (fuel, 0) l5 (zBS (by simp)) ?_
 rintro ⟨k6, i2⟩ l5
 dsimp only at l5 ⊢
 cases k6 with
 | zero =>
  rw [zCX] at l5; cases l5
 | succ k7 =>
  rw [zCX] at l5
  refine cutA 29 0 [(0, .str s1), (5, .int .i64 s1.length), (6, .int .i64 i2), (7, .bool (ltI ((i2 : Nat) : Int) (s1.length : Int)))] [] <| zAM <| spc l5 rfl (fun g8 l5 => ?_) fun g8 l5 => ?_
  ·have c9 := ltT g8
   refine zGX 0 rfl fun f10 => ?_
   refine zAF <| zAP <| zAM <| zAU <| cutA 29 0 [(0, .str s1), (3, .int .i64 i2), (5, .int .i64 s1.length), (6, .int .i64 i2)] [] ?_
   obtain ⟨b21, q22, l5⟩ := bs l5
   refine cut 29 0 [(0, .str s1), (5, .int .i64 s1.length), (6, .int .i64 i2), (24, .bool b21)] [] ?_ ?_
   ·obtain ⟨c11, q12, q22⟩ := bs q22
    rcases sp q22 with ⟨g13, q22⟩ | ⟨g13, q22⟩
    ·have g14 := notT g13
     have c15 := eqF g14
     rcases sp q22 with ⟨g16, q22⟩ | ⟨g16, q22⟩
     ·have c17 := ltT g16
      obtain rfl := oi q22
      refine st ?_
      simp [q12, g13, g16]
     have c18 := ltF g16
     obtain rfl := oi q22
     refine st ?_
     simp [q12, g13, g16]
    have g19 := notF g13
    have c20 := eqT g19
    obtain rfl := oi q22
    refine st ?_
    simp [q12, g13]
   refine spc l5 rfl (fun g23 l5 => ?_) fun g23 l5 => ?_
   ·refine cutA 29 0 [(2, .bool false)] [] <| zAB <| zAJ <| zAE ?_
    replace h := retL l5 h
    refine zAE <| zAJ <| zAE ?_
    obtain rfl := oi h
    simp
   refine zAF <| zCx <| zAP ?_
   have q24 : Rng .i64 (((i2 : Nat) : Int) + 1) := by simp only [Rng, inR]; omega
   try simp at q24
   refine last 29 0 [(0, .str s1), (5, .int .i64 s1.length), (6, .int .i64 ((i2 + 1 : Nat) : Int))] [] (st (by simp [q24])) fun zz hs => ?_
   exact ⟨(k7, i2 + 1), hs, l5, by simp⟩
  have c25 := ltF g8
  refine zGX 0 rfl fun f26 => ?_
  refine zBR <| zAc ?_
  rcases o4 with o4 | o3
  ·cases l5
  have q27 := Sum.inr.inj (Option.some.inj l5)
  replace h := zFp h
  refine zAc <| zBQ <| zBT (t := mkS 29 0 [(0, .str s1)] []) ?_ (zBS (by simp))
  refine cutA 29 0 [(2, .bool (leI (s1.length : Int) 16384))] [] <| zAB ?_
  obtain rfl := oi h
  simp
theorem zIG (fuel : Nat) (s1 : (List UInt8)) (r : Bool) (h : zEh fuel s1 = some r) : Pure Tryz.prog 89 [.str s1] (.bool r) := by
 rw [zEh] at h
 refine zAO Tryz.func89 (by rfl) (by rfl) (by simp) (by simp) (by simp) <| cutA 6 0 [(0, .str s1)] [] ?_
 obtain ⟨v2, q3, h⟩ := bs h
 refine cut 6 0 [(2, .bool (!v2))] [] ?_ ?_
 ·refine st ?_
  simp
  have r4 := zBK fuel s1 v2 q3
  try simp at r4
  refine zAA r4 (by simp) rfl ?_
  simp
 refine zAB ?_
 obtain rfl := oi h
 simp
theorem zEm (fuel : Nat) (s1 : (List (List UInt8))) (r : Int) (h : zCH fuel s1 = some r) : Pure Tryz.prog 109 [.sl (s1.map cS), .fn (.func 89) [] []] (.int .i64 r) := by
 rw [zCH] at h
 refine zAO Tryz.func109 (by rfl) (by rfl) (by simp) (by simp) (by simp) <| cutA 19 0 [(0, .sl (s1.map cS)), (1, .fn (.func 89) [] [])] [] <| zAM <| cutA 19 0 [(0, .sl (s1.map cS)), (1, .fn (.func 89) [] []), (7, .int .i64 s1.length), (8, .int .i64 0)] [] <| zAU ?_
 obtain ⟨o4, l5, h⟩ := bs h
 refine zB2 (fun p : Nat × Nat => mkS 19 0 [(0, .sl (s1.map cS)), (1, .fn (.func 89) [] []), (7, .int .i64 s1.length), (8, .int .i64 p.2)] []) (fun p => zAy fuel s1 p.1 p.2 = some o4) (fun p => p.1) (fuel, 0) l5 (zBS (by simp)) ?_
 rintro ⟨k6, i2⟩ l5
 dsimp only at l5 ⊢
 cases k6 with
 | zero =>
  rw [zAy] at l5; cases l5
 | succ k7 =>
  rw [zAy] at l5
  refine cutA 19 0 [(0, .sl (s1.map cS)), (1, .fn (.func 89) [] []), (7, .int .i64 s1.length), (8, .int .i64 i2), (9, .bool (ltI ((i2 : Nat) : Int) (s1.length : Int)))] [] <| zAM <| spc l5 rfl (fun g8 l5 => ?_) fun g8 l5 => ?_
  ·have c9 := ltT g8
   refine zD3 0 rfl fun f10 => ?_
   rw [List.length_map] at f10
   refine zAF <| zAP <| zAM <| zAU <| cutA 19 0 [(0, .sl (s1.map cS)), (1, .fn (.func 89) [] []), (5, .int .i64 i2), (7, .int .i64 s1.length), (8, .int .i64 i2)] [] ?_
   obtain ⟨x11, q12, l5⟩ := bs l5
   obtain ⟨v13, q14, l5⟩ := bs l5
   refine cut 19 0 [(0, .sl (s1.map cS)), (1, .fn (.func 89) [] []), (5, .int .i64 i2), (7, .int .i64 s1.length), (8, .int .i64 i2), (16, .bool v13)] [] ?_ ?_
   ·refine st ?_
    simp [q12]
    have r17 := zIG fuel x11 v13 q14
    try simp [q12] at r17
    refine zAA r17 (by simp) rfl ?_
    simp [q12]
   refine spc l5 rfl (fun g15 l5 => ?_) fun g15 l5 => ?_
   ·refine cutA 19 0 [(4, .int .i64 i2)] [] <| zAB <| zAJ <| zAE ?_
    replace h := retL l5 h
    refine zAE <| zAJ <| zAE ?_
    obtain rfl := oi h
    simp
   refine zAF <| zCx <| zAP ?_
   have q16 : Rng .i64 (((i2 : Nat) : Int) + 1) := by simp only [Rng, inR]; omega
   try simp at q16
   refine last 19 0 [(0, .sl (s1.map cS)), (1, .fn (.func 89) [] []), (7, .int .i64 s1.length), (8, .int .i64 ((i2 + 1 : Nat) : Int))] [] (st (by simp [q16])) fun zz hs => ?_
   exact ⟨(k7, i2 + 1), hs, l5, by simp⟩
  have c18 := ltF g8
  refine zD3 0 rfl fun f19 => ?_
  rw [List.length_map] at f19
  refine zBR <| zAc ?_
  rcases o4 with o4 | o3
  ·cases l5
  have q20 := Sum.inr.inj (Option.some.inj l5)
  replace h := zFp h
  refine zAc <| zBQ <| zBT (t := mkS 19 0 [] []) ?_ (zBS (by simp))
  refine cutA 19 0 [(4, .int .i64 (-1))] [] <| zAB ?_
  obtain rfl := oi h
  simp
theorem zEU (fuel : Nat) (s1 : (List (List UInt8))) (r : Bool) (h : zBI fuel s1 = some r) : Pure Tryz.prog 88 [.sl (s1.map cS), .fn (.func 89) [] []] (.bool r) := by
 rw [zBI] at h
 refine zAO Tryz.func88 (by rfl) (by rfl) (by simp) (by simp) (by simp) <| cutA 9 0 [(0, .sl (s1.map cS)), (1, .fn (.func 89) [] [])] [] ?_
 obtain ⟨v2, q3, h⟩ := bs h
 refine cut 9 0 [(4, .bool (leI 0 v2))] [] ?_ ?_
 ·refine st ?_
  simp
  have r4 := zEm fuel s1 v2 q3
  try simp at r4
  refine zAA r4 (by simp) rfl ?_
  simp
 refine zAB ?_
 obtain rfl := oi h
 simp
theorem zEV (fuel : Nat) (l1 : (List (List UInt8))) (r : Bool) (h : zCg fuel l1 = some r) : Pure Tryz.prog 90 [.sl (l1.map cS)] (.bool r) := by
 rw [zCg] at h
 refine zAO Tryz.func90 (by rfl) (by rfl) (by simp) (by simp) (by simp) <| cutA 26 0 [(0, .sl (l1.map cS))] [] <| zAM <| cutA 26 0 [(0, .sl (l1.map cS)), (5, .sl (l1.map cS)), (6, .int .i64 l1.length), (7, .int .i64 0)] [] <| zAU ?_
 obtain ⟨o4, l5, h⟩ := bs h
 refine zB2 (fun p : Nat × Nat => mkS 26 0 [(0, .sl (l1.map cS)), (5, .sl (l1.map cS)), (6, .int .i64 l1.length), (7, .int .i64 p.2)] []) (fun p => zCP fuel l1 p.1 p.2 = some o4) (fun p => p.1) (fuel, 0) l5 (zBS (by simp)) ?_
 rintro ⟨k6, i2⟩ l5
 dsimp only at l5 ⊢
 cases k6 with
 | zero =>
  rw [zCP] at l5; cases l5
 | succ k7 =>
  rw [zCP] at l5
  refine cutA 26 0 [(0, .sl (l1.map cS)), (5, .sl (l1.map cS)), (6, .int .i64 l1.length), (7, .int .i64 i2), (8, .bool (ltI ((i2 : Nat) : Int) (l1.length : Int)))] [] <| zAM <| spc l5 rfl (fun g8 l5 => ?_) fun g8 l5 => ?_
  ·have c9 := ltT g8
   refine zD3 0 rfl fun f10 => ?_
   rw [List.length_map] at f10
   refine zAF <| zAP <| zAM <| zAU ?_
   obtain ⟨x11, q12, l5⟩ := bs l5
   refine cut 26 0 [(0, .sl (l1.map cS)), (3, .int .i64 i2), (4, .str x11), (5, .sl (l1.map cS)), (6, .int .i64 l1.length), (7, .int .i64 i2)] [] (st (by simp [q12])) ?_
   obtain ⟨b24, q25, l5⟩ := bs l5
   refine cut 26 0 [(0, .sl (l1.map cS)), (5, .sl (l1.map cS)), (6, .int .i64 l1.length), (7, .int .i64 i2), (21, .bool b24)] [] ?_ ?_
   ·obtain ⟨v13, q14, q25⟩ := bs q25
    rcases sp q25 with ⟨g15, q25⟩ | ⟨g15, q25⟩
    ·have g16 := notT g15
     obtain rfl := oi q25
     refine st ?_
     simp [g15]
     have r28 := zFh fuel x11 v13 q14
     try simp [g15] at r28
     refine zAA r28 (by simp) rfl ?_
     simp [g15]
    have g17 := notF g15
    obtain ⟨l18, q19, q25⟩ := bs q25
    obtain ⟨q20, q21⟩ := zEW q19
    try simp at q20
    try simp at q21
    obtain ⟨v22, q23, q25⟩ := bs q25
    obtain rfl := oi q25
    refine st ?_
    simp [g15, q20, q21]
    have r29 := zFh fuel x11 v13 q14
    try simp [g15, q20, q21] at r29
    refine zAA r29 (by simp) rfl ?_
    simp [g15, q20, q21]
    have r30 := zDW fuel l18 x11 v22 q23
    try simp [g15, q20, q21] at r30
    refine zAA r30 (by simp) rfl ?_
    simp [g15, q20, q21]
   refine spc l5 rfl (fun g26 l5 => ?_) fun g26 l5 => ?_
   ·refine cutA 26 0 [(2, .bool false)] [] <| zAB <| zAJ <| zAE ?_
    replace h := retL l5 h
    refine zAE <| zAJ <| zAE ?_
    obtain rfl := oi h
    simp
   refine zAF <| zCx <| zAP ?_
   have q27 : Rng .i64 (((i2 : Nat) : Int) + 1) := by simp only [Rng, inR]; omega
   try simp at q27
   refine last 26 0 [(0, .sl (l1.map cS)), (5, .sl (l1.map cS)), (6, .int .i64 l1.length), (7, .int .i64 ((i2 + 1 : Nat) : Int))] [] (st (by simp [q27])) fun zz hs => ?_
   exact ⟨(k7, i2 + 1), hs, l5, by simp⟩
  have c31 := ltF g8
  refine zD3 0 rfl fun f32 => ?_
  rw [List.length_map] at f32
  refine zBR <| zAc ?_
  rcases o4 with o4 | o3
  ·cases l5
  have q33 := Sum.inr.inj (Option.some.inj l5)
  replace h := zFp h
  refine zAc <| zBQ <| zBT (t := mkS 26 0 [(0, .sl (l1.map cS))] []) ?_ (zBS (by simp))
  refine cutA 26 0 [(2, .bool (leI (l1.length : Int) 4))] [] <| zAB ?_
  obtain rfl := oi h
  simp
theorem zHQ (fuel : Nat) (t1 : zJC) (inWith2 : Bool) (r : Bool) (h : zAZ fuel t1 inWith2 = some r) : Pure Tryz.prog 56 [.agg t1.d, .bool inWith2] (.bool r) := by
 rw [zAZ] at h
 refine zAO Tryz.func56 (by rfl) (by rfl) (by simp) (by simp) (by simp) <| cutA 199 0 [(1, .bool inWith2), (2, .mptr 0 0)] [t1.d] ?_
 obtain ⟨v3, q4, h⟩ := bs h
 refine cut 199 0 [(1, .bool inWith2), (2, .mptr 0 0), (5, .mptr 1 0)] [t1.d, (zJA.c v3)] ?_ ?_
 ·refine st ?_
  simp
  have r298 := zHo t1.Op v3 q4
  try simp at r298
  refine zAA r298 (by simp) rfl ?_
  simp
 refine zAM <| cut 199 0 [(1, .bool inWith2), (2, .mptr 0 0), (37, .bool (if !v3.n then (!(eqI t1.N 0)) || (if !v3.s then (!(eqS t1.S ([] : List UInt8))) || ((!v3.names) && (ltI 0 (t1.Names.length : Int))) else (!v3.names) && (ltI 0 (t1.Names.length : Int))) else if !v3.s then (!(eqS t1.S ([] : List UInt8))) || ((!v3.names) && (ltI 0 (t1.Names.length : Int))) else (!v3.names) && (ltI 0 (t1.Names.length : Int))))] [t1.d, (zJA.c v3)] ?_ ?_
 ·rcases tf (!v3.n) with g5 | g5
  ·have g6 := notT g5
   rcases tf (!(eqI t1.N 0)) with g7 | g7
   ·have g8 := notT g7
    have c9 := eqF g8
    refine st ?_
    simp [g5, g7]
   have g10 := notF g7
   have c11 := eqT g10
   rcases tf (!v3.s) with g12 | g12
   ·have g13 := notT g12
    rcases tf (!(eqS t1.S ([] : List UInt8))) with g14 | g14
    ·have g15 := notT g14
     refine st ?_
     simp [g5, g7, g12, g14]
    have g16 := notF g14
    rcases tf (!v3.names) with g17 | g17
    ·have g18 := notT g17
     refine st ?_
     simp [g5, g7, g12, g14, g17]
    have g19 := notF g17
    refine st ?_
    simp [g5, g7, g12, g14, g17]
   have g20 := notF g12
   rcases tf (!v3.names) with g21 | g21
   ·have g22 := notT g21
    refine st ?_
    simp [g5, g7, g12, g21]
   have g23 := notF g21
   refine st ?_
   simp [g5, g7, g12, g21]
  have g24 := notF g5
  rcases tf (!v3.s) with g25 | g25
  ·have g26 := notT g25
   rcases tf (!(eqS t1.S ([] : List UInt8))) with g27 | g27
   ·have g28 := notT g27
    refine st ?_
    simp [g5, g25, g27]
   have g29 := notF g27
   rcases tf (!v3.names) with g30 | g30
   ·have g31 := notT g30
    refine st ?_
    simp [g5, g25, g27, g30]
   have g32 := notF g30
   refine st ?_
   simp [g5, g25, g27, g30]
  have g33 := notF g25
  rcases tf (!v3.names) with g34 | g34
  ·have g35 := notT g34
   refine st ?_
   simp [g5, g25, g34]
  have g36 := notF g34
  refine st ?_
  simp [g5, g25, g34]
 refine spc h rfl (fun g37 h => ?_) fun g37 h => ?_
 ·refine cutA 199 0 [(4, .bool false)] [t1.d, (zJA.c v3)] <| zAB <| zAE ?_
  obtain rfl := oi h
  simp
 refine zAF <| zAP <| zAM <| cutA 199 0 [(1, .bool inWith2), (2, .mptr 0 0), (39, .int .i64 t1.Op)] [t1.d, (zJA.c v3)] <| zAU <| cutA 199 0 [(1, .bool inWith2), (2, .mptr 0 0), (39, .int .i64 t1.Op), (40, .bool (eqI t1.Op 1))] [t1.d, (zJA.c v3)] <| spc h rfl (fun g38 h => ?_) fun g38 h => ?_
 ·obtain ⟨v40, q41, h⟩ := bs h
  refine cut 199 0 [(4, .bool v40)] [t1.d, (zJA.c v3)] ?_ ?_
  ·refine st ?_
   simp
   have r42 := zFh fuel t1.S v40 q41
   try simp at r42
   refine zAA r42 (by simp) rfl ?_
   simp
  refine zAB <| zAJ <| zAE ?_
  obtain rfl := oi h
  simp
 refine zAM <| cutA 199 0 [(1, .bool inWith2), (2, .mptr 0 0), (39, .int .i64 t1.Op), (45, .bool (eqI t1.Op 2))] [t1.d, (zJA.c v3)] <| spc h rfl (fun g44 h => ?_) fun g44 h => ?_
 ·refine zAF <| zAP <| zBE rfl (by simp [g44]) ?_
  obtain ⟨v46, q47, h⟩ := bs h
  refine cut 199 0 [(4, .bool v46)] [t1.d, (zJA.c v3)] ?_ ?_
  ·refine st ?_
   simp
   have r48 := zCM fuel t1.Names true v46 q47
   try simp at r48
   refine zAA r48 (by simp) rfl ?_
   simp
  refine zAB <| zAJ <| zAE ?_
  obtain rfl := oi h
  simp
 refine cutA 199 0 [(1, .bool inWith2), (2, .mptr 0 0), (39, .int .i64 t1.Op), (45, .bool (eqI t1.Op 23))] [t1.d, (zJA.c v3)] <| spc h rfl (fun g50 h => ?_) fun g50 h => ?_
 ·refine zAF <| zAP <| zBE rfl (by simp [g50]) ?_
  obtain ⟨v52, q53, h⟩ := bs h
  refine cut 199 0 [(4, .bool v52)] [t1.d, (zJA.c v3)] ?_ ?_
  ·refine st ?_
   simp
   have r54 := zCM fuel t1.Names true v52 q53
   try simp at r54
   refine zAA r54 (by simp) rfl ?_
   simp
  refine zAB <| zAJ <| zAE ?_
  obtain rfl := oi h
  simp
 refine cutA 199 0 [(1, .bool inWith2), (2, .mptr 0 0), (39, .int .i64 t1.Op), (45, .bool (eqI t1.Op 66))] [t1.d, (zJA.c v3)] <| spc h rfl (fun g56 h => ?_) fun g56 h => ?_
 ·refine zAF <| zAP <| zBE rfl (by simp [g56]) ?_
  obtain ⟨v58, q59, h⟩ := bs h
  refine cut 199 0 [(4, .bool v58)] [t1.d, (zJA.c v3)] ?_ ?_
  ·refine st ?_
   simp
   have r60 := zCM fuel t1.Names true v58 q59
   try simp at r60
   refine zAA r60 (by simp) rfl ?_
   simp
  refine zAB <| zAJ <| zAE ?_
  obtain rfl := oi h
  simp
 refine zEf 199 0 [(1, .bool inWith2), (2, .mptr 0 0), (39, .int .i64 t1.Op), (45, .bool (eqI t1.Op 74))] [t1.d, (zJA.c v3)] <| spc h rfl (fun g62 h => ?_) fun g62 h => ?_
 ·have c63 := eqT g62
  obtain ⟨v64, q65, h⟩ := bs h
  refine cut 199 0 [(4, .bool v64)] [t1.d, (zJA.c v3)] ?_ ?_
  ·refine st ?_
   simp
   have r66 := zCM fuel t1.Names true v64 q65
   try simp at r66
   refine zAA r66 (by simp) rfl ?_
   simp
  refine zAB <| zAJ <| zAE ?_
  obtain rfl := oi h
  simp
 have c67 := eqF g62
 refine zAM <| cutA 199 0 [(1, .bool inWith2), (2, .mptr 0 0), (39, .int .i64 t1.Op), (53, .bool (eqI t1.Op 5))] [t1.d, (zJA.c v3)] <| spc h rfl (fun g68 h => ?_) fun g68 h => ?_
 ·refine zAF <| zAP <| zBE rfl (by simp [g68]) ?_
  obtain ⟨v70, q71, h⟩ := bs h
  refine cut 199 0 [(4, .bool v70)] [t1.d, (zJA.c v3)] ?_ ?_
  ·refine st ?_
   simp
   have r72 := zCM fuel t1.Names false v70 q71
   try simp at r72
   refine zAA r72 (by simp) rfl ?_
   simp
  refine zAB <| zAJ <| zAE ?_
  obtain rfl := oi h
  simp
 refine cutA 199 0 [(1, .bool inWith2), (2, .mptr 0 0), (39, .int .i64 t1.Op), (53, .bool (eqI t1.Op 14))] [t1.d, (zJA.c v3)] <| spc h rfl (fun g74 h => ?_) fun g74 h => ?_
 ·refine zAF <| zAP <| zBE rfl (by simp [g74]) ?_
  obtain ⟨v76, q77, h⟩ := bs h
  refine cut 199 0 [(4, .bool v76)] [t1.d, (zJA.c v3)] ?_ ?_
  ·refine st ?_
   simp
   have r78 := zCM fuel t1.Names false v76 q77
   try simp at r78
   refine zAA r78 (by simp) rfl ?_
   simp
  refine zAB <| zAJ <| zAE ?_
  obtain rfl := oi h
  simp
 refine cutA 199 0 [(1, .bool inWith2), (2, .mptr 0 0), (39, .int .i64 t1.Op), (53, .bool (eqI t1.Op 24))] [t1.d, (zJA.c v3)] <| spc h rfl (fun g80 h => ?_) fun g80 h => ?_
 ·refine zAF <| zAP <| zBE rfl (by simp [g80]) ?_
  obtain ⟨v82, q83, h⟩ := bs h
  refine cut 199 0 [(4, .bool v82)] [t1.d, (zJA.c v3)] ?_ ?_
  ·refine st ?_
   simp
   have r84 := zCM fuel t1.Names false v82 q83
   try simp at r84
   refine zAA r84 (by simp) rfl ?_
   simp
  refine zAB <| zAJ <| zAE ?_
  obtain rfl := oi h
  simp
 refine cutA 199 0 [(1, .bool inWith2), (2, .mptr 0 0), (39, .int .i64 t1.Op), (53, .bool (eqI t1.Op 34))] [t1.d, (zJA.c v3)] <| spc h rfl (fun g86 h => ?_) fun g86 h => ?_
 ·refine zAF <| zAP <| zBE rfl (by simp [g86]) ?_
  obtain ⟨v88, q89, h⟩ := bs h
  refine cut 199 0 [(4, .bool v88)] [t1.d, (zJA.c v3)] ?_ ?_
  ·refine st ?_
   simp
   have r90 := zCM fuel t1.Names false v88 q89
   try simp at r90
   refine zAA r90 (by simp) rfl ?_
   simp
  refine zAB <| zAJ <| zAE ?_
  obtain rfl := oi h
  simp
 refine cutA 199 0 [(1, .bool inWith2), (2, .mptr 0 0), (39, .int .i64 t1.Op), (53, .bool (eqI t1.Op 48))] [t1.d, (zJA.c v3)] <| spc h rfl (fun g92 h => ?_) fun g92 h => ?_
 ·refine zAF <| zAP <| zBE rfl (by simp [g92]) ?_
  obtain ⟨v94, q95, h⟩ := bs h
  refine cut 199 0 [(4, .bool v94)] [t1.d, (zJA.c v3)] ?_ ?_
  ·refine st ?_
   simp
   have r96 := zCM fuel t1.Names false v94 q95
   try simp at r96
   refine zAA r96 (by simp) rfl ?_
   simp
  refine zAB <| zAJ <| zAE ?_
  obtain rfl := oi h
  simp
 refine cutA 199 0 [(1, .bool inWith2), (2, .mptr 0 0), (39, .int .i64 t1.Op), (53, .bool (eqI t1.Op 49))] [t1.d, (zJA.c v3)] <| spc h rfl (fun g98 h => ?_) fun g98 h => ?_
 ·refine zAF <| zAP <| zBE rfl (by simp [g98]) ?_
  obtain ⟨v100, q101, h⟩ := bs h
  refine cut 199 0 [(4, .bool v100)] [t1.d, (zJA.c v3)] ?_ ?_
  ·refine st ?_
   simp
   have r102 := zCM fuel t1.Names false v100 q101
   try simp at r102
   refine zAA r102 (by simp) rfl ?_
   simp
  refine zAB <| zAJ <| zAE ?_
  obtain rfl := oi h
  simp
 refine cutA 199 0 [(1, .bool inWith2), (2, .mptr 0 0), (39, .int .i64 t1.Op), (53, .bool (eqI t1.Op 72))] [t1.d, (zJA.c v3)] <| spc h rfl (fun g104 h => ?_) fun g104 h => ?_
 ·refine zAF <| zAP <| zBE rfl (by simp [g104]) ?_
  obtain ⟨v106, q107, h⟩ := bs h
  refine cut 199 0 [(4, .bool v106)] [t1.d, (zJA.c v3)] ?_ ?_
  ·refine st ?_
   simp
   have r108 := zCM fuel t1.Names false v106 q107
   try simp at r108
   refine zAA r108 (by simp) rfl ?_
   simp
  refine zAB <| zAJ <| zAE ?_
  obtain rfl := oi h
  simp
 refine zEf 199 0 [(1, .bool inWith2), (2, .mptr 0 0), (39, .int .i64 t1.Op), (53, .bool (eqI t1.Op 82))] [t1.d, (zJA.c v3)] <| spc h rfl (fun g110 h => ?_) fun g110 h => ?_
 ·have c111 := eqT g110
  obtain ⟨v112, q113, h⟩ := bs h
  refine cut 199 0 [(4, .bool v112)] [t1.d, (zJA.c v3)] ?_ ?_
  ·refine st ?_
   simp
   have r114 := zCM fuel t1.Names false v112 q113
   try simp at r114
   refine zAA r114 (by simp) rfl ?_
   simp
  refine zAB <| zAJ <| zAE ?_
  obtain rfl := oi h
  simp
 have c115 := eqF g110
 refine zAM <| cutA 199 0 [(1, .bool inWith2), (2, .mptr 0 0), (39, .int .i64 t1.Op), (65, .bool (eqI t1.Op 12))] [t1.d, (zJA.c v3)] <| spc h rfl (fun g116 h => ?_) fun g116 h => ?_
 ·refine zAF <| zAP <| zBE rfl (by simp [g116]) ?_
  obtain ⟨v118, q119, h⟩ := bs h
  refine cut 199 0 [(4, .bool v118)] [t1.d, (zJA.c v3)] ?_ ?_
  ·refine st ?_
   simp
   have r120 := zBK fuel t1.S v118 q119
   try simp at r120
   refine zAA r120 (by simp) rfl ?_
   simp
  refine zAB <| zAJ <| zAE ?_
  obtain rfl := oi h
  simp
 refine cutA 199 0 [(1, .bool inWith2), (2, .mptr 0 0), (39, .int .i64 t1.Op), (65, .bool (eqI t1.Op 41))] [t1.d, (zJA.c v3)] <| spc h rfl (fun g122 h => ?_) fun g122 h => ?_
 ·refine zAF <| zAP <| zBE rfl (by simp [g122]) ?_
  obtain ⟨v124, q125, h⟩ := bs h
  refine cut 199 0 [(4, .bool v124)] [t1.d, (zJA.c v3)] ?_ ?_
  ·refine st ?_
   simp
   have r126 := zBK fuel t1.S v124 q125
   try simp at r126
   refine zAA r126 (by simp) rfl ?_
   simp
  refine zAB <| zAJ <| zAE ?_
  obtain rfl := oi h
  simp
 refine zEf 199 0 [(1, .bool inWith2), (2, .mptr 0 0), (39, .int .i64 t1.Op), (65, .bool (eqI t1.Op 61))] [t1.d, (zJA.c v3)] <| spc h rfl (fun g128 h => ?_) fun g128 h => ?_
 ·have c129 := eqT g128
  obtain ⟨v130, q131, h⟩ := bs h
  refine cut 199 0 [(4, .bool v130)] [t1.d, (zJA.c v3)] ?_ ?_
  ·refine st ?_
   simp
   have r132 := zBK fuel t1.S v130 q131
   try simp at r132
   refine zAA r132 (by simp) rfl ?_
   simp
  refine zAB <| zAJ <| zAE ?_
  obtain rfl := oi h
  simp
 have c133 := eqF g128
 refine cutA 199 0 [(1, .bool inWith2), (2, .mptr 0 0), (39, .int .i64 t1.Op), (72, .bool (eqI t1.Op 13))] [t1.d, (zJA.c v3)] <| spc h rfl (fun g134 h => ?_) fun g134 h => ?_
 ·refine cut 199 0 [(4, .bool ((leI (-4503599627370496) t1.N) && (leI t1.N 4503599627370496)))] [t1.d, (zJA.c v3)] ?_ ?_
  ·rcases tf (leI (-4503599627370496) t1.N) with g136 | g136
   ·have c137 := leT g136
    refine st ?_
    simp [g136]
   have c138 := leF g136
   refine st ?_
   simp [g136]
  refine zAB <| zAJ <| zAE ?_
  obtain rfl := oi h
  simp
 refine cutA 199 0 [(1, .bool inWith2), (2, .mptr 0 0), (39, .int .i64 t1.Op), (82, .bool (eqI t1.Op 21))] [t1.d, (zJA.c v3)] <| spc h rfl (fun g140 h => ?_) fun g140 h => ?_
 ·refine cut 199 0 [(4, .bool ((leI 0 t1.N) && (leI t1.N 4503599627370496)))] [t1.d, (zJA.c v3)] ?_ ?_
  ·rcases tf (leI 0 t1.N) with g142 | g142
   ·have c143 := leT g142
    refine st ?_
    simp [g142]
   have c144 := leF g142
   refine st ?_
   simp [g142]
  refine zAB <| zAJ <| zAE ?_
  obtain rfl := oi h
  simp
 refine cutA 199 0 [(1, .bool inWith2), (2, .mptr 0 0), (39, .int .i64 t1.Op), (92, .bool (eqI t1.Op 22))] [t1.d, (zJA.c v3)] <| spc h rfl (fun g146 h => ?_) fun g146 h => ?_
 ·obtain ⟨v148, q149, h⟩ := bs h
  refine cut 199 0 [(4, .bool v148)] [t1.d, (zJA.c v3)] ?_ ?_
  ·refine st ?_
   simp
   have r150 := zIF fuel t1.S v148 q149
   try simp at r150
   refine zAA r150 (by simp) rfl ?_
   simp
  refine zAB <| zAJ <| zAE ?_
  obtain rfl := oi h
  simp
 refine cutA 199 0 [(1, .bool inWith2), (2, .mptr 0 0), (39, .int .i64 t1.Op), (97, .bool (eqI t1.Op 25))] [t1.d, (zJA.c v3)] <| spc h rfl (fun g152 h => ?_) fun g152 h => ?_
 ·obtain ⟨b157, q158, h⟩ := bs h
  refine cut 199 0 [(4, .bool b157)] [t1.d, (zJA.c v3)] ?_ ?_
  ·rcases sp q158 with ⟨g154, q158⟩ | ⟨g154, q158⟩
   ·obtain rfl := oi q158
    refine st ?_
    simp [g154]
   obtain ⟨v155, q156, q158⟩ := bs q158
   obtain rfl := oi q158
   refine st ?_
   simp [g154]
   have r159 := zBK fuel t1.S v155 q156
   try simp [g154] at r159
   refine zAA r159 (by simp) rfl ?_
   simp [g154]
  refine zAB <| zAJ <| zAE ?_
  obtain rfl := oi h
  simp
 refine cutA 199 0 [(1, .bool inWith2), (2, .mptr 0 0), (39, .int .i64 t1.Op), (107, .bool (eqI t1.Op 32))] [t1.d, (zJA.c v3)] <| spc h rfl (fun g161 h => ?_) fun g161 h => ?_
 ·refine cut 199 0 [(4, .bool ((leI 1 t1.N) && (leI t1.N 12)))] [t1.d, (zJA.c v3)] ?_ ?_
  ·rcases tf (leI 1 t1.N) with g163 | g163
   ·have c164 := leT g163
    refine st ?_
    simp [g163]
   have c165 := leF g163
   refine st ?_
   simp [g163]
  refine zAB <| zAJ <| zAE ?_
  obtain rfl := oi h
  simp
 refine cutA 199 0 [(1, .bool inWith2), (2, .mptr 0 0), (39, .int .i64 t1.Op), (117, .bool (eqI t1.Op 42))] [t1.d, (zJA.c v3)] <| spc h rfl (fun g167 h => ?_) fun g167 h => ?_
 ·obtain ⟨b182, q183, h⟩ := bs h
  refine cut 199 0 [(4, .bool b182)] [t1.d, (zJA.c v3)] ?_ ?_
  ·obtain ⟨v169, q170, q183⟩ := bs q183
   rcases sp q183 with ⟨g171, q183⟩ | ⟨g171, q183⟩
   ·rcases sp q183 with ⟨g172, q183⟩ | ⟨g172, q183⟩
    ·have c173 := leT g172
     refine zCJ 0 3 rfl rfl rfl fun f174 => ?_
     rw [List.length_map] at f174
     rcases sp q183 with ⟨g175, q183⟩ | ⟨g175, q183⟩
     ·have c176 := leT g175
      obtain ⟨v177, q178, q183⟩ := bs q183
      obtain rfl := oi q183
      refine st ?_
      simp [g171, g172, g175]
      have r184 := zBK fuel t1.S v169 q170
      try simp [g171, g172, g175] at r184
      refine zAA r184 (by simp) rfl ?_
      simp [g171, g172, g175]
      have r185 := zEU fuel t1.Names v177 q178
      try simp [g171, g172, g175] at r185
      refine zAA r185 (by simp) rfl ?_
      simp [g171, g172, g175]
     have c179 := leF g175
     obtain rfl := oi q183
     refine st ?_
     simp [g171, g172, g175]
     have r186 := zBK fuel t1.S v169 q170
     try simp [g171, g172, g175] at r186
     refine zAA r186 (by simp) rfl ?_
     simp [g171, g172, g175]
    have c180 := leF g172
    refine zCJ 0 3 rfl rfl rfl fun f181 => ?_
    rw [List.length_map] at f181
    obtain rfl := oi q183
    refine st ?_
    simp [g171, g172]
    have r187 := zBK fuel t1.S v169 q170
    try simp [g171, g172] at r187
    refine zAA r187 (by simp) rfl ?_
    simp [g171, g172]
   obtain rfl := oi q183
   refine st ?_
   simp [g171]
   have r188 := zBK fuel t1.S v169 q170
   try simp [g171] at r188
   refine zAA r188 (by simp) rfl ?_
   simp [g171]
  refine zAB <| zAJ <| zAE ?_
  obtain rfl := oi h
  simp
 refine cutA 199 0 [(1, .bool inWith2), (2, .mptr 0 0), (39, .int .i64 t1.Op), (140, .bool (eqI t1.Op 43))] [t1.d, (zJA.c v3)] <| spc h rfl (fun g190 h => ?_) fun g190 h => ?_
 ·obtain ⟨b201, q202, h⟩ := bs h
  refine cut 199 0 [(4, .bool b201)] [t1.d, (zJA.c v3)] ?_ ?_
  ·rcases sp q202 with ⟨g192, q202⟩ | ⟨g192, q202⟩
   ·rcases sp q202 with ⟨g193, q202⟩ | ⟨g193, q202⟩
    ·obtain ⟨v194, q195, q202⟩ := bs q202
     obtain rfl := oi q202
     refine st ?_
     simp [g192, g193]
     have r203 := zEV fuel t1.Names v194 q195
     try simp [g192, g193] at r203
     refine zAA r203 (by simp) rfl ?_
     simp [g192, g193]
    obtain rfl := oi q202
    refine st ?_
    simp [g192, g193]
   obtain ⟨v196, q197, q202⟩ := bs q202
   rcases sp q202 with ⟨g198, q202⟩ | ⟨g198, q202⟩
   ·obtain ⟨v199, q200, q202⟩ := bs q202
    obtain rfl := oi q202
    refine st ?_
    simp [g192, g198]
    have r204 := zBK fuel t1.S v196 q197
    try simp [g192, g198] at r204
    refine zAA r204 (by simp) rfl ?_
    simp [g192, g198]
    have r205 := zEV fuel t1.Names v199 q200
    try simp [g192, g198] at r205
    refine zAA r205 (by simp) rfl ?_
    simp [g192, g198]
   obtain rfl := oi q202
   refine st ?_
   simp [g192, g198]
   have r206 := zBK fuel t1.S v196 q197
   try simp [g192, g198] at r206
   refine zAA r206 (by simp) rfl ?_
   simp [g192, g198]
  refine zAB <| zAJ <| zAE ?_
  obtain rfl := oi h
  simp
 refine zAM <| cutA 199 0 [(2, .mptr 0 0), (39, .int .i64 t1.Op), (162, .bool (eqI t1.Op 44))] [t1.d, (zJA.c v3)] <| spc h rfl (fun g208 h => ?_) fun g208 h => ?_
 ·refine zAF <| zAP <| zBE rfl (by simp [g208]) ?_
  obtain ⟨b215, q216, h⟩ := bs h
  refine cut 199 0 [(4, .bool b215)] [t1.d, (zJA.c v3)] ?_ ?_
  ·obtain ⟨v210, q211, q216⟩ := bs q216
   rcases sp q216 with ⟨g212, q216⟩ | ⟨g212, q216⟩
   ·obtain ⟨v213, q214, q216⟩ := bs q216
    obtain rfl := oi q216
    refine st ?_
    simp [g212]
    have r217 := zBK fuel t1.S v210 q211
    try simp [g212] at r217
    refine zAA r217 (by simp) rfl ?_
    simp [g212]
    have r218 := zEV fuel t1.Names v213 q214
    try simp [g212] at r218
    refine zAA r218 (by simp) rfl ?_
    simp [g212]
   obtain rfl := oi q216
   refine st ?_
   simp [g212]
   have r219 := zBK fuel t1.S v210 q211
   try simp [g212] at r219
   refine zAA r219 (by simp) rfl ?_
   simp [g212]
  refine zAB <| zAJ <| zAE ?_
  obtain rfl := oi h
  simp
 refine zEf 199 0 [(2, .mptr 0 0), (39, .int .i64 t1.Op), (162, .bool (eqI t1.Op 62))] [t1.d, (zJA.c v3)] <| spc h rfl (fun g221 h => ?_) fun g221 h => ?_
 ·have c222 := eqT g221
  obtain ⟨b228, q229, h⟩ := bs h
  refine cut 199 0 [(4, .bool b228)] [t1.d, (zJA.c v3)] ?_ ?_
  ·obtain ⟨v223, q224, q229⟩ := bs q229
   rcases sp q229 with ⟨g225, q229⟩ | ⟨g225, q229⟩
   ·obtain ⟨v226, q227, q229⟩ := bs q229
    obtain rfl := oi q229
    refine st ?_
    simp [g225]
    have r230 := zBK fuel t1.S v223 q224
    try simp [g225] at r230
    refine zAA r230 (by simp) rfl ?_
    simp [g225]
    have r231 := zEV fuel t1.Names v226 q227
    try simp [g225] at r231
    refine zAA r231 (by simp) rfl ?_
    simp [g225]
   obtain rfl := oi q229
   refine st ?_
   simp [g225]
   have r232 := zBK fuel t1.S v223 q224
   try simp [g225] at r232
   refine zAA r232 (by simp) rfl ?_
   simp [g225]
  refine zAB <| zAJ <| zAE ?_
  obtain rfl := oi h
  simp
 have c233 := eqF g221
 refine zAM <| cutA 199 0 [(2, .mptr 0 0), (39, .int .i64 t1.Op), (173, .bool (eqI t1.Op 45))] [t1.d, (zJA.c v3)] <| spc h rfl (fun g234 h => ?_) fun g234 h => ?_
 ·refine zAF <| zAP <| zBE rfl (by simp [g234]) ?_
  obtain ⟨v236, q237, h⟩ := bs h
  refine cut 199 0 [(4, .bool v236)] [t1.d, (zJA.c v3)] ?_ ?_
  ·refine st ?_
   simp
   have r238 := zA4 fuel t1.S v236 q237
   try simp at r238
   refine zAA r238 (by simp) rfl ?_
   simp
  refine zAB <| zAJ <| zAE ?_
  obtain rfl := oi h
  simp
 refine cutA 199 0 [(2, .mptr 0 0), (39, .int .i64 t1.Op), (173, .bool (eqI t1.Op 46))] [t1.d, (zJA.c v3)] <| spc h rfl (fun g240 h => ?_) fun g240 h => ?_
 ·refine zAF <| zAP <| zBE rfl (by simp [g240]) ?_
  obtain ⟨v242, q243, h⟩ := bs h
  refine cut 199 0 [(4, .bool v242)] [t1.d, (zJA.c v3)] ?_ ?_
  ·refine st ?_
   simp
   have r244 := zA4 fuel t1.S v242 q243
   try simp at r244
   refine zAA r244 (by simp) rfl ?_
   simp
  refine zAB <| zAJ <| zAE ?_
  obtain rfl := oi h
  simp
 refine cutA 199 0 [(2, .mptr 0 0), (39, .int .i64 t1.Op), (173, .bool (eqI t1.Op 47))] [t1.d, (zJA.c v3)] <| spc h rfl (fun g246 h => ?_) fun g246 h => ?_
 ·refine zAF <| zAP <| zBE rfl (by simp [g246]) ?_
  obtain ⟨v248, q249, h⟩ := bs h
  refine cut 199 0 [(4, .bool v248)] [t1.d, (zJA.c v3)] ?_ ?_
  ·refine st ?_
   simp
   have r250 := zA4 fuel t1.S v248 q249
   try simp at r250
   refine zAA r250 (by simp) rfl ?_
   simp
  refine zAB <| zAJ <| zAE ?_
  obtain rfl := oi h
  simp
 refine cutA 199 0 [(2, .mptr 0 0), (39, .int .i64 t1.Op), (173, .bool (eqI t1.Op 50))] [t1.d, (zJA.c v3)] <| spc h rfl (fun g252 h => ?_) fun g252 h => ?_
 ·refine zAF <| zAP <| zBE rfl (by simp [g252]) ?_
  obtain ⟨v254, q255, h⟩ := bs h
  refine cut 199 0 [(4, .bool v254)] [t1.d, (zJA.c v3)] ?_ ?_
  ·refine st ?_
   simp
   have r256 := zA4 fuel t1.S v254 q255
   try simp at r256
   refine zAA r256 (by simp) rfl ?_
   simp
  refine zAB <| zAJ <| zAE ?_
  obtain rfl := oi h
  simp
 refine cutA 199 0 [(2, .mptr 0 0), (39, .int .i64 t1.Op), (173, .bool (eqI t1.Op 63))] [t1.d, (zJA.c v3)] <| spc h rfl (fun g258 h => ?_) fun g258 h => ?_
 ·refine zAF <| zAP <| zBE rfl (by simp [g258]) ?_
  obtain ⟨v260, q261, h⟩ := bs h
  refine cut 199 0 [(4, .bool v260)] [t1.d, (zJA.c v3)] ?_ ?_
  ·refine st ?_
   simp
   have r262 := zA4 fuel t1.S v260 q261
   try simp at r262
   refine zAA r262 (by simp) rfl ?_
   simp
  refine zAB <| zAJ <| zAE ?_
  obtain rfl := oi h
  simp
 refine zEf 199 0 [(2, .mptr 0 0), (39, .int .i64 t1.Op), (173, .bool (eqI t1.Op 64))] [t1.d, (zJA.c v3)] <| spc h rfl (fun g264 h => ?_) fun g264 h => ?_
 ·have c265 := eqT g264
  obtain ⟨v266, q267, h⟩ := bs h
  refine cut 199 0 [(4, .bool v266)] [t1.d, (zJA.c v3)] ?_ ?_
  ·refine st ?_
   simp
   have r268 := zA4 fuel t1.S v266 q267
   try simp at r268
   refine zAA r268 (by simp) rfl ?_
   simp
  refine zAB <| zAJ <| zAE ?_
  obtain rfl := oi h
  simp
 have c269 := eqF g264
 refine zAM <| cutA 199 0 [(2, .mptr 0 0), (39, .int .i64 t1.Op), (183, .bool (eqI t1.Op 73))] [t1.d, (zJA.c v3)] <| spc h rfl (fun g270 h => ?_) fun g270 h => ?_
 ·refine zAF <| zAP <| zBE rfl (by simp [g270]) ?_
  obtain ⟨b278, q279, h⟩ := bs h
  refine cut 199 0 [(4, .bool b278)] [t1.d, (zJA.c v3)] ?_ ?_
  ·obtain ⟨v272, q273, q279⟩ := bs q279
   rcases sp q279 with ⟨g274, q279⟩ | ⟨g274, q279⟩
   ·rcases sp q279 with ⟨g275, q279⟩ | ⟨g275, q279⟩
    ·have c276 := eqT g275
     obtain rfl := oi q279
     refine st ?_
     simp [g274, g275]
     have r280 := zA4 fuel t1.S v272 q273
     try simp [g274, g275] at r280
     refine zAA r280 (by simp) rfl ?_
     simp [g274, g275]
    have c277 := eqF g275
    obtain rfl := oi q279
    refine st ?_
    simp [g274, g275]
    have r281 := zA4 fuel t1.S v272 q273
    try simp [g274, g275] at r281
    refine zAA r281 (by simp) rfl ?_
    simp [g274, g275]
   obtain rfl := oi q279
   refine st ?_
   simp [g274]
   have r282 := zA4 fuel t1.S v272 q273
   try simp [g274] at r282
   refine zAA r282 (by simp) rfl ?_
   simp [g274]
  refine zAB <| zAJ <| zAE ?_
  obtain rfl := oi h
  simp
 refine zEf 199 0 [(2, .mptr 0 0), (183, .bool (eqI t1.Op 83))] [t1.d, (zJA.c v3)] <| spc h rfl (fun g284 h => ?_) fun g284 h => ?_
 ·have c285 := eqT g284
  obtain ⟨b292, q293, h⟩ := bs h
  refine cut 199 0 [(4, .bool b292)] [t1.d, (zJA.c v3)] ?_ ?_
  ·obtain ⟨v286, q287, q293⟩ := bs q293
   rcases sp q293 with ⟨g288, q293⟩ | ⟨g288, q293⟩
   ·rcases sp q293 with ⟨g289, q293⟩ | ⟨g289, q293⟩
    ·have c290 := eqT g289
     obtain rfl := oi q293
     refine st ?_
     simp [g288, g289]
     have r294 := zA4 fuel t1.S v286 q287
     try simp [g288, g289] at r294
     refine zAA r294 (by simp) rfl ?_
     simp [g288, g289]
    have c291 := eqF g289
    obtain rfl := oi q293
    refine st ?_
    simp [g288, g289]
    have r295 := zA4 fuel t1.S v286 q287
    try simp [g288, g289] at r295
    refine zAA r295 (by simp) rfl ?_
    simp [g288, g289]
   obtain rfl := oi q293
   refine st ?_
   simp [g288]
   have r296 := zA4 fuel t1.S v286 q287
   try simp [g288] at r296
   refine zAA r296 (by simp) rfl ?_
   simp [g288]
  refine zAB <| zAJ <| zAE ?_
  obtain rfl := oi h
  simp
 have c297 := eqF g284
 refine zAF <| zCx <| zAP <| cutA 199 0 [(4, .bool true)] [t1.d, (zJA.c v3)] <| zAB ?_
 obtain rfl := oi h
 simp
theorem zHm (x1 : zJC) (c2 : Int) (r : Bool) (h : zED x1 c2 = some r) : Raw Tryz.prog 110 [.agg x1.d, .mptr 0 0] [[.int .i64 c2]] (.bool r) [[.int .i64 c2]] := by
 rw [zED] at h
 refine zA6 Tryz.func110 (by rfl) (by rfl) (by simp) (by simp) <| cutA 8 1 [(1, .mptr 0 0), (2, .mptr 1 0)] [[.int .i64 c2], x1.d] ?_
 obtain ⟨v3, q4, h⟩ := bs h
 refine cut 8 1 [(3, .bool (!v3))] [[.int .i64 c2], x1.d] ?_ ?_
 ·refine st ?_
  simp
  have r5 := zBB c2 x1 v3 q4
  try simp at r5
  refine zAA r5 (by simp) rfl ?_
  simp
 refine zAB ?_
 obtain rfl := oi h
 simp
theorem zEZ (fuel : Nat) (s1 : (List zJC)) (c2 : Int) (r : Int) (h : zB5 fuel s1 c2 = some r) : Raw Tryz.prog 35 [.sl (s1.map zJC.c), .fn (.func 110) [] [.mptr 0 0]] [[.int .i64 c2]] (.int .i64 r) [[.int .i64 c2]] := by
 rw [zB5] at h
 refine zA6 Tryz.func35 (by rfl) (by rfl) (by simp) (by simp) <| cutA 19 1 [(0, .sl (s1.map zJC.c)), (1, .fn (.func 110) [] [.mptr 0 0])] [[.int .i64 c2]] <| zAM <| cutA 19 1 [(0, .sl (s1.map zJC.c)), (1, .fn (.func 110) [] [.mptr 0 0]), (7, .int .i64 s1.length), (8, .int .i64 0)] [[.int .i64 c2]] <| zAU ?_
 obtain ⟨o5, l6, h⟩ := bs h
 refine zB2 (fun p : Nat × Nat => mkS 19 1 [(0, .sl (s1.map zJC.c)), (1, .fn (.func 110) [] [.mptr 0 0]), (7, .int .i64 s1.length), (8, .int .i64 p.2)] [[.int .i64 c2]]) (fun p => zAr s1 c2 p.1 p.2 = some o5) (fun p => p.1) (fuel, 0) l6 (zBS (by simp)) ?_
 rintro ⟨k7, i3⟩ l6
 dsimp only at l6 ⊢
 cases k7 with
 | zero =>
  rw [zAr] at l6; cases l6
 | succ k8 =>
  rw [zAr] at l6
  refine cutA 19 1 [(0, .sl (s1.map zJC.c)), (1, .fn (.func 110) [] [.mptr 0 0]), (7, .int .i64 s1.length), (8, .int .i64 i3), (9, .bool (ltI ((i3 : Nat) : Int) (s1.length : Int)))] [[.int .i64 c2]] <| zAM <| spc l6 rfl (fun g9 l6 => ?_) fun g9 l6 => ?_
  ·have c10 := ltT g9
   refine zD3 0 rfl fun f11 => ?_
   rw [List.length_map] at f11
   refine zAF <| zAP <| zAM <| zAU <| cutA 19 1 [(0, .sl (s1.map zJC.c)), (1, .fn (.func 110) [] [.mptr 0 0]), (5, .int .i64 i3), (7, .int .i64 s1.length), (8, .int .i64 i3)] [[.int .i64 c2]] ?_
   obtain ⟨x12, q13, l6⟩ := bs l6
   obtain ⟨v14, q15, l6⟩ := bs l6
   refine cut 19 1 [(0, .sl (s1.map zJC.c)), (1, .fn (.func 110) [] [.mptr 0 0]), (5, .int .i64 i3), (7, .int .i64 s1.length), (8, .int .i64 i3), (16, .bool v14)] [[.int .i64 c2]] ?_ ?_
   ·refine st ?_
    simp [q13]
    have r18 := (zHm x12 c2 v14 q15).frame [0] [[.int .i64 c2]] (by simp)
    try simp [q13] at r18
    refine zAR r18 (by simp [q13]) rfl ?_
    simp [q13]
   refine spc l6 rfl (fun g16 l6 => ?_) fun g16 l6 => ?_
   ·refine cutA 19 1 [(4, .int .i64 i3)] [[.int .i64 c2]] <| zAB <| zAJ <| zAE ?_
    replace h := retL l6 h
    refine zAE <| zAJ <| zAE ?_
    obtain rfl := oi h
    simp
   refine zAF <| zCx <| zAP ?_
   have q17 : Rng .i64 (((i3 : Nat) : Int) + 1) := by simp only [Rng, inR]; omega
   try simp at q17
   refine last 19 1 [(0, .sl (s1.map zJC.c)), (1, .fn (.func 110) [] [.mptr 0 0]), (7, .int .i64 s1.length), (8, .int .i64 ((i3 + 1 : Nat) : Int))] [[.int .i64 c2]] (st (by simp [q17])) fun zz hs => ?_
   exact ⟨(k8, i3 + 1), hs, l6, by simp⟩
  have c19 := ltF g9
  refine zD3 0 rfl fun f20 => ?_
  rw [List.length_map] at f20
  refine zBR <| zAc ?_
  rcases o5 with o5 | o4
  ·cases l6
  have q21 := Sum.inr.inj (Option.some.inj l6)
  replace h := zFp h
  refine zAc <| zBQ <| zBT (t := mkS 19 1 [] [[.int .i64 c2]]) ?_ (zBS (by simp))
  refine cutA 19 1 [(4, .int .i64 (-1))] [[.int .i64 c2]] <| zAB ?_
  obtain rfl := oi h
  simp
theorem zD9 (fuel : Nat) (s1 : (List zJC)) (c2 : Int) (r : Bool) (h : zBW fuel s1 c2 = some r) : Raw Tryz.prog 18 [.sl (s1.map zJC.c), .fn (.func 110) [] [.mptr 0 0]] [[.int .i64 c2]] (.bool r) [[.int .i64 c2]] := by
 rw [zBW] at h
 refine zA6 Tryz.func18 (by rfl) (by rfl) (by simp) (by simp) <| cutA 9 1 [(0, .sl (s1.map zJC.c)), (1, .fn (.func 110) [] [.mptr 0 0])] [[.int .i64 c2]] ?_
 obtain ⟨v3, q4, h⟩ := bs h
 refine cut 9 1 [(4, .bool (leI 0 v3))] [[.int .i64 c2]] ?_ ?_
 ·refine st ?_
  simp
  have r5 := (zEZ fuel s1 c2 v3 q4).frame [0] [[.int .i64 c2]] (by simp)
  try simp at r5
  refine zAR r5 (by simp) rfl ?_
  simp
 refine zAB ?_
 obtain rfl := oi h
 simp
theorem zC1 (fuel : Nat) (l1 : (List zJC)) (cat2 : Int) (least3 : Int) (most4 : Int) (r : Bool) (h : zCG fuel l1 cat2 least3 most4 = some r) : Pure Tryz.prog 91 [.sl (l1.map zJC.c), .int .i64 cat2, .int .i64 least3, .int .i64 most4] (.bool r) := by
 rw [zCG] at h
 refine zAO Tryz.func91 (by rfl) (by rfl) (by simp) (by simp) (by simp) <| cutA 25 0 [(0, .sl (l1.map zJC.c)), (2, .int .i64 least3), (3, .int .i64 most4), (5, .mptr 0 0)] [[.int .i64 cat2]] ?_
 obtain ⟨b15, q16, h⟩ := bs h
 refine cut 25 0 [(8, .bool b15)] [[.int .i64 cat2]] ?_ ?_
 ·rcases sp q16 with ⟨g5, q16⟩ | ⟨g5, q16⟩
  ·have c6 := leT g5
   refine zD3 0 rfl fun f7 => ?_
   rw [List.length_map] at f7
   rcases sp q16 with ⟨g8, q16⟩ | ⟨g8, q16⟩
   ·have c9 := leT g8
    obtain ⟨v10, q11, q16⟩ := bs q16
    obtain rfl := oi q16
    refine st ?_
    simp [g5, g8]
    have r17 := (zD9 fuel l1 cat2 v10 q11).frame [0] [[.int .i64 cat2]] (by simp)
    try simp [g5, g8] at r17
    refine zAR r17 (by simp [g5, g8]) rfl ?_
    simp [g5, g8]
   have c12 := leF g8
   obtain rfl := oi q16
   refine st ?_
   simp [g5, g8]
  have c13 := leF g5
  refine zD3 0 rfl fun f14 => ?_
  rw [List.length_map] at f14
  obtain rfl := oi q16
  refine st ?_
  simp [g5]
 refine zAB ?_
 obtain rfl := oi h
 simp
theorem zAz (fuel : Nat) (t1 : zJC) (cats2 : (List Int)) (r : Bool) (h : zAu fuel t1 cats2 = some r) : Pure Tryz.prog 92 [.agg t1.d, .sl (cats2.map (cI .i64))] (.bool r) := by
 rw [zAu] at h
 refine zAO Tryz.func92 (by rfl) (by rfl) (by simp) (by simp) (by simp) <| cutA 29 0 [(1, .sl (cats2.map (cI .i64))), (2, .mptr 0 0)] [t1.d] <| zAM <| cutA 29 0 [(1, .sl (cats2.map (cI .i64))), (2, .mptr 0 0), (12, .bool (!(eqI (t1.L.length : Int) (cats2.length : Int))))] [t1.d] ?_
 rcases sp h with ⟨g3, h⟩ | ⟨g3, h⟩
 ·have g4 := notT g3
  have c5 := eqF g4
  refine zBE rfl g3 <| cutA 29 0 [(4, .bool false)] [t1.d] <| zAB <| zAE ?_
  obtain rfl := oi h
  simp
 have g6 := notF g3
 have c7 := eqT g6
 refine zGH rfl g3 <| zAF <| zAP <| zAM <| cutA 29 0 [(2, .mptr 0 0), (13, .sl (cats2.map (cI .i64))), (14, .int .i64 cats2.length), (15, .int .i64 0)] [t1.d] <| zAU ?_
 obtain ⟨o10, l11, h⟩ := bs h
 refine zB2 (fun p : Nat × Nat => mkS 29 0 [(2, .mptr 0 0), (13, .sl (cats2.map (cI .i64))), (14, .int .i64 cats2.length), (15, .int .i64 p.2)] [t1.d]) (fun p => zCY t1 cats2 p.1 p.2 = some o10) (fun p => p.1) (fuel, 0) l11 (zBS (by simp)) ?_
 rintro ⟨k12, i8⟩ l11
 dsimp only at l11 ⊢
 cases k12 with
 | zero =>
  rw [zCY] at l11; cases l11
 | succ k13 =>
  rw [zCY] at l11
  refine cutA 29 0 [(2, .mptr 0 0), (13, .sl (cats2.map (cI .i64))), (14, .int .i64 cats2.length), (15, .int .i64 i8), (16, .bool (ltI ((i8 : Nat) : Int) (cats2.length : Int)))] [t1.d] <| zAM <| spc l11 rfl (fun g14 l11 => ?_) fun g14 l11 => ?_
  ·have c15 := ltT g14
   refine zD3 13 rfl fun f16 => ?_
   rw [List.length_map] at f16
   refine zAF <| zAP <| zAM <| zAU ?_
   obtain ⟨x17, q18, l11⟩ := bs l11
   refine cut 29 0 [(2, .mptr 0 0), (5, .int .i64 i8), (6, .int .i64 x17), (13, .sl (cats2.map (cI .i64))), (14, .int .i64 cats2.length), (15, .int .i64 i8)] [t1.d] (st (by simp [q18])) ?_
   obtain ⟨x19, q20, l11⟩ := bs l11
   obtain ⟨v21, q22, l11⟩ := bs l11
   refine cut 29 0 [(2, .mptr 0 0), (13, .sl (cats2.map (cI .i64))), (14, .int .i64 cats2.length), (15, .int .i64 i8), (27, .bool (!v21))] [t1.d] ?_ ?_
   ·refine st ?_
    simp [q20]
    have r27 := zBB x17 x19 v21 q22
    try simp [q20] at r27
    refine zAA r27 (by simp) rfl ?_
    simp [q20]
   refine spc l11 rfl (fun g23 l11 => ?_) fun g23 l11 => ?_
   ·have g24 := notT g23
    refine cutA 29 0 [(4, .bool false)] [t1.d] <| zAB <| zAJ <| zAE ?_
    replace h := retL l11 h
    refine zAE <| zAJ <| zAE ?_
    obtain rfl := oi h
    simp
   have g25 := notF g23
   refine zAF <| zCx <| zAP ?_
   have q26 : Rng .i64 (((i8 : Nat) : Int) + 1) := by simp only [Rng, inR]; omega
   try simp at q26
   refine last 29 0 [(2, .mptr 0 0), (13, .sl (cats2.map (cI .i64))), (14, .int .i64 cats2.length), (15, .int .i64 ((i8 + 1 : Nat) : Int))] [t1.d] (st (by simp [q26])) fun zz hs => ?_
   exact ⟨(k13, i8 + 1), hs, l11, by simp⟩
  have c28 := ltF g14
  refine zD3 13 rfl fun f29 => ?_
  rw [List.length_map] at f29
  refine zBR <| zAc ?_
  rcases o10 with o10 | o9
  ·cases l11
  have q30 := Sum.inr.inj (Option.some.inj l11)
  replace h := zFp h
  refine zAc <| zBQ <| zBT (t := mkS 29 0 [] [t1.d]) ?_ (zBS (by simp))
  refine cutA 29 0 [(4, .bool true)] [t1.d] <| zAB ?_
  obtain rfl := oi h
  simp
theorem zGd (fuel : Nat) (s1 : (List Int)) (v2 : Int) (r : Int) (h : zD1 fuel s1 v2 = some r) : Pure Tryz.prog 128 [.sl (s1.map (cI .i64)), .int .i64 v2] (.int .i64 r) := by
 rw [zD1] at h
 refine zAO Tryz.func128 (by rfl) (by rfl) (by simp) (by simp) (by simp) <| cutA 19 0 [(0, .sl (s1.map (cI .i64))), (1, .int .i64 v2)] [] <| zAM <| cutA 19 0 [(0, .sl (s1.map (cI .i64))), (1, .int .i64 v2), (7, .int .i64 s1.length), (8, .int .i64 0)] [] <| zAU ?_
 obtain ⟨o5, l6, h⟩ := bs h
 refine zB2 (fun p : Nat × Nat => mkS 19 0 [(0, .sl (s1.map (cI .i64))), (1, .int .i64 v2), (7, .int .i64 s1.length), (8, .int .i64 p.2)] []) (fun p => zBu s1 v2 p.1 p.2 = some o5) (fun p => p.1) (fuel, 0) l6 (zBS (by simp)) ?_
 rintro ⟨k7, i3⟩ l6
 dsimp only at l6 ⊢
 cases k7 with
 | zero =>
  rw [zBu] at l6; cases l6
 | succ k8 =>
  rw [zBu] at l6
  refine cutA 19 0 [(0, .sl (s1.map (cI .i64))), (1, .int .i64 v2), (7, .int .i64 s1.length), (8, .int .i64 i3), (9, .bool (ltI ((i3 : Nat) : Int) (s1.length : Int)))] [] <| zAM <| spc l6 rfl (fun g9 l6 => ?_) fun g9 l6 => ?_
  ·have c10 := ltT g9
   refine zD3 0 rfl fun f11 => ?_
   rw [List.length_map] at f11
   refine zAF <| zAP <| zAM <| zAU <| cutA 19 0 [(0, .sl (s1.map (cI .i64))), (1, .int .i64 v2), (5, .int .i64 i3), (7, .int .i64 s1.length), (8, .int .i64 i3)] [] ?_
   obtain ⟨x12, q13, l6⟩ := bs l6
   refine cut 19 0 [(0, .sl (s1.map (cI .i64))), (1, .int .i64 v2), (5, .int .i64 i3), (7, .int .i64 s1.length), (8, .int .i64 i3), (16, .bool (eqI v2 x12))] [] (st (by simp [q13])) <| spc l6 rfl (fun g14 l6 => ?_) fun g14 l6 => ?_
   ·have c15 := eqT g14
    refine cutA 19 0 [(4, .int .i64 i3)] [] <| zAB <| zAJ <| zAE ?_
    replace h := retL l6 h
    refine zAE <| zAJ <| zAE ?_
    obtain rfl := oi h
    simp
   have c16 := eqF g14
   refine zAF <| zCx <| zAP ?_
   have q17 : Rng .i64 (((i3 : Nat) : Int) + 1) := by simp only [Rng, inR]; omega
   try simp at q17
   refine last 19 0 [(0, .sl (s1.map (cI .i64))), (1, .int .i64 v2), (7, .int .i64 s1.length), (8, .int .i64 ((i3 + 1 : Nat) : Int))] [] (st (by simp [q17])) fun zz hs => ?_
   exact ⟨(k8, i3 + 1), hs, l6, by simp⟩
  have c18 := ltF g9
  refine zD3 0 rfl fun f19 => ?_
  rw [List.length_map] at f19
  refine zBR <| zAc ?_
  rcases o5 with o5 | o4
  ·cases l6
  have q20 := Sum.inr.inj (Option.some.inj l6)
  replace h := zFp h
  refine zAc <| zBQ <| zBT (t := mkS 19 0 [] []) ?_ (zBS (by simp))
  refine cutA 19 0 [(4, .int .i64 (-1))] [] <| zAB ?_
  obtain rfl := oi h
  simp
theorem zFt (fuel : Nat) (s1 : (List Int)) (v2 : Int) (r : Bool) (h : zCz fuel s1 v2 = some r) : Pure Tryz.prog 112 [.sl (s1.map (cI .i64)), .int .i64 v2] (.bool r) := by
 rw [zCz] at h
 refine zAO Tryz.func112 (by rfl) (by rfl) (by simp) (by simp) (by simp) <| cutA 9 0 [(0, .sl (s1.map (cI .i64))), (1, .int .i64 v2)] [] ?_
 obtain ⟨v3, q4, h⟩ := bs h
 refine cut 9 0 [(4, .bool (leI 0 v3))] [] ?_ ?_
 ·refine st ?_
  simp
  have r5 := zGd fuel s1 v2 v3 q4
  try simp at r5
  refine zAA r5 (by simp) rfl ?_
  simp
 refine zAB ?_
 obtain rfl := oi h
 simp
theorem zHl (fuel : Nat) (x1 : zJC) (c2 : (List Int)) (r : Bool) (h : zEC fuel x1 c2 = some r) : Raw Tryz.prog 111 [.agg x1.d, .mptr 0 0] [[.sl (c2.map (cI .i64))]] (.bool r) [[.sl (c2.map (cI .i64))]] := by
 rw [zEC] at h
 refine zA6 Tryz.func111 (by rfl) (by rfl) (by simp) (by simp) <| cutA 9 1 [(1, .mptr 0 0), (2, .mptr 1 0)] [[.sl (c2.map (cI .i64))], x1.d] ?_
 obtain ⟨v3, q4, h⟩ := bs h
 refine cut 9 1 [(3, .bool (!v3))] [[.sl (c2.map (cI .i64))], x1.d] ?_ ?_
 ·refine st ?_
  simp
  have r5 := zFt fuel c2 x1.Op v3 q4
  try simp at r5
  refine zAA r5 (by simp) rfl ?_
  simp
 refine zAB ?_
 obtain rfl := oi h
 simp
theorem zEY (fuel : Nat) (s1 : (List zJC)) (c2 : (List Int)) (r : Int) (h : zB4 fuel s1 c2 = some r) : Raw Tryz.prog 35 [.sl (s1.map zJC.c), .fn (.func 111) [] [.mptr 0 0]] [[.sl (c2.map (cI .i64))]] (.int .i64 r) [[.sl (c2.map (cI .i64))]] := by
 rw [zB4] at h
 refine zA6 Tryz.func35 (by rfl) (by rfl) (by simp) (by simp) <| cutA 19 1 [(0, .sl (s1.map zJC.c)), (1, .fn (.func 111) [] [.mptr 0 0])] [[.sl (c2.map (cI .i64))]] <| zAM <| cutA 19 1 [(0, .sl (s1.map zJC.c)), (1, .fn (.func 111) [] [.mptr 0 0]), (7, .int .i64 s1.length), (8, .int .i64 0)] [[.sl (c2.map (cI .i64))]] <| zAU ?_
 obtain ⟨o5, l6, h⟩ := bs h
 refine zB2 (fun p : Nat × Nat => mkS 19 1 [(0, .sl (s1.map zJC.c)), (1, .fn (.func 111) [] [.mptr 0 0]), (7, .int .i64 s1.length), (8, .int .i64 p.2)] [[.sl (c2.map (cI .i64))]]) (fun p => zAq fuel s1 c2 p.1 p.2 = some o5) (fun p => p.1) (fuel, 0) l6 (zBS (by simp)) ?_
 rintro ⟨k7, i3⟩ l6
 dsimp only at l6 ⊢
 cases k7 with
 | zero =>
  rw [zAq] at l6; cases l6
 | succ k8 =>
  rw [zAq] at l6
  refine cutA 19 1 [(0, .sl (s1.map zJC.c)), (1, .fn (.func 111) [] [.mptr 0 0]), (7, .int .i64 s1.length), (8, .int .i64 i3), (9, .bool (ltI ((i3 : Nat) : Int) (s1.length : Int)))] [[.sl (c2.map (cI .i64))]] <| zAM <| spc l6 rfl (fun g9 l6 => ?_) fun g9 l6 => ?_
  ·have c10 := ltT g9
   refine zD3 0 rfl fun f11 => ?_
   rw [List.length_map] at f11
   refine zAF <| zAP <| zAM <| zAU <| cutA 19 1 [(0, .sl (s1.map zJC.c)), (1, .fn (.func 111) [] [.mptr 0 0]), (5, .int .i64 i3), (7, .int .i64 s1.length), (8, .int .i64 i3)] [[.sl (c2.map (cI .i64))]] ?_
   obtain ⟨x12, q13, l6⟩ := bs l6
   obtain ⟨v14, q15, l6⟩ := bs l6
   refine cut 19 1 [(0, .sl (s1.map zJC.c)), (1, .fn (.func 111) [] [.mptr 0 0]), (5, .int .i64 i3), (7, .int .i64 s1.length), (8, .int .i64 i3), (16, .bool v14)] [[.sl (c2.map (cI .i64))]] ?_ ?_
   ·refine st ?_
    simp [q13]
    have r18 := (zHl fuel x12 c2 v14 q15).frame [0] [[.sl (c2.map (cI .i64))]] (by simp)
    try simp [q13] at r18
    refine zAR r18 (by simp [q13]) rfl ?_
    simp [q13]
   refine spc l6 rfl (fun g16 l6 => ?_) fun g16 l6 => ?_
   ·refine cutA 19 1 [(4, .int .i64 i3)] [[.sl (c2.map (cI .i64))]] <| zAB <| zAJ <| zAE ?_
    replace h := retL l6 h
    refine zAE <| zAJ <| zAE ?_
    obtain rfl := oi h
    simp
   refine zAF <| zCx <| zAP ?_
   have q17 : Rng .i64 (((i3 : Nat) : Int) + 1) := by simp only [Rng, inR]; omega
   try simp at q17
   refine last 19 1 [(0, .sl (s1.map zJC.c)), (1, .fn (.func 111) [] [.mptr 0 0]), (7, .int .i64 s1.length), (8, .int .i64 ((i3 + 1 : Nat) : Int))] [[.sl (c2.map (cI .i64))]] (st (by simp [q17])) fun zz hs => ?_
   exact ⟨(k8, i3 + 1), hs, l6, by simp⟩
  have c19 := ltF g9
  refine zD3 0 rfl fun f20 => ?_
  rw [List.length_map] at f20
  refine zBR <| zAc ?_
  rcases o5 with o5 | o4
  ·cases l6
  have q21 := Sum.inr.inj (Option.some.inj l6)
  replace h := zFp h
  refine zAc <| zBQ <| zBT (t := mkS 19 1 [] [[.sl (c2.map (cI .i64))]]) ?_ (zBS (by simp))
  refine cutA 19 1 [(4, .int .i64 (-1))] [[.sl (c2.map (cI .i64))]] <| zAB ?_
  obtain rfl := oi h
  simp
theorem zD8 (fuel : Nat) (s1 : (List zJC)) (c2 : (List Int)) (r : Bool) (h : zBV fuel s1 c2 = some r) : Raw Tryz.prog 18 [.sl (s1.map zJC.c), .fn (.func 111) [] [.mptr 0 0]] [[.sl (c2.map (cI .i64))]] (.bool r) [[.sl (c2.map (cI .i64))]] := by
 rw [zBV] at h
 refine zA6 Tryz.func18 (by rfl) (by rfl) (by simp) (by simp) <| cutA 9 1 [(0, .sl (s1.map zJC.c)), (1, .fn (.func 111) [] [.mptr 0 0])] [[.sl (c2.map (cI .i64))]] ?_
 obtain ⟨v3, q4, h⟩ := bs h
 refine cut 9 1 [(4, .bool (leI 0 v3))] [[.sl (c2.map (cI .i64))]] ?_ ?_
 ·refine st ?_
  simp
  have r5 := (zEY fuel s1 c2 v3 q4).frame [0] [[.sl (c2.map (cI .i64))]] (by simp)
  try simp at r5
  refine zAR r5 (by simp) rfl ?_
  simp
 refine zAB ?_
 obtain rfl := oi h
 simp
theorem zCf (fuel : Nat) (l1 : (List zJC)) (ops2 : (List Int)) (r : Bool) (h : zCQ fuel l1 ops2 = some r) : Pure Tryz.prog 93 [.sl (l1.map zJC.c), .sl (ops2.map (cI .i64))] (.bool r) := by
 rw [zCQ] at h
 refine zAO Tryz.func93 (by rfl) (by rfl) (by simp) (by simp) (by simp) <| cutA 9 0 [(0, .sl (l1.map zJC.c)), (3, .mptr 0 0)] [[.sl (ops2.map (cI .i64))]] ?_
 obtain ⟨v3, q4, h⟩ := bs h
 refine cut 9 0 [(4, .bool (!v3))] [[.sl (ops2.map (cI .i64))]] ?_ ?_
 ·refine st ?_
  simp
  have r5 := (zD8 fuel l1 ops2 v3 q4).frame [0] [[.sl (ops2.map (cI .i64))]] (by simp)
  try simp at r5
  refine zAR r5 (by simp) rfl ?_
  simp
 refine zAB ?_
 obtain rfl := oi h
 simp
theorem zG5 (y1 : zJC) (w2 : zJC) (r : Bool) (h : zEH y1 w2 = some r) : Raw Tryz.prog 113 [.agg y1.d, .mptr 0 0] [w2.d] (.bool r) [w2.d] := by
 rw [zEH] at h
 refine zA6 Tryz.func113 (by rfl) (by rfl) (by simp) (by simp) <| cutA 9 1 [(1, .mptr 0 0), (2, .mptr 1 0)] [w2.d, y1.d] <| cutA 9 1 [(3, .bool (eqS w2.S y1.S))] [w2.d, y1.d] <| zAB ?_
 obtain rfl := oi h
 simp
theorem zEJ (fuel : Nat) (s1 : (List zJC)) (w2 : zJC) (r : Int) (h : zBt fuel s1 w2 = some r) : Raw Tryz.prog 35 [.sl (s1.map zJC.c), .fn (.func 113) [] [.mptr 0 0]] [w2.d] (.int .i64 r) [w2.d] := by
 rw [zBt] at h
 refine zA6 Tryz.func35 (by rfl) (by rfl) (by simp) (by simp) <| cutA 19 1 [(0, .sl (s1.map zJC.c)), (1, .fn (.func 113) [] [.mptr 0 0])] [w2.d] <| zAM <| cutA 19 1 [(0, .sl (s1.map zJC.c)), (1, .fn (.func 113) [] [.mptr 0 0]), (7, .int .i64 s1.length), (8, .int .i64 0)] [w2.d] <| zAU ?_
 obtain ⟨o5, l6, h⟩ := bs h
 refine zB2 (fun p : Nat × Nat => mkS 19 1 [(0, .sl (s1.map zJC.c)), (1, .fn (.func 113) [] [.mptr 0 0]), (7, .int .i64 s1.length), (8, .int .i64 p.2)] [w2.d]) (fun p => zAk s1 w2 p.1 p.2 = some o5) (fun p => p.1) (fuel, 0) l6 (zBS (by simp)) ?_
 rintro ⟨k7, i3⟩ l6
 dsimp only at l6 ⊢
 cases k7 with
 | zero =>
  rw [zAk] at l6; cases l6
 | succ k8 =>
  rw [zAk] at l6
  refine cutA 19 1 [(0, .sl (s1.map zJC.c)), (1, .fn (.func 113) [] [.mptr 0 0]), (7, .int .i64 s1.length), (8, .int .i64 i3), (9, .bool (ltI ((i3 : Nat) : Int) (s1.length : Int)))] [w2.d] <| zAM <| spc l6 rfl (fun g9 l6 => ?_) fun g9 l6 => ?_
  ·have c10 := ltT g9
   refine zD3 0 rfl fun f11 => ?_
   rw [List.length_map] at f11
   refine zAF <| zAP <| zAM <| zAU <| cutA 19 1 [(0, .sl (s1.map zJC.c)), (1, .fn (.func 113) [] [.mptr 0 0]), (5, .int .i64 i3), (7, .int .i64 s1.length), (8, .int .i64 i3)] [w2.d] ?_
   obtain ⟨x12, q13, l6⟩ := bs l6
   obtain ⟨v14, q15, l6⟩ := bs l6
   refine cut 19 1 [(0, .sl (s1.map zJC.c)), (1, .fn (.func 113) [] [.mptr 0 0]), (5, .int .i64 i3), (7, .int .i64 s1.length), (8, .int .i64 i3), (16, .bool v14)] [w2.d] ?_ ?_
   ·refine st ?_
    simp [q13]
    have r18 := (zG5 x12 w2 v14 q15).frame [0] [w2.d] (by simp)
    try simp [q13] at r18
    refine zAR r18 (by simp [q13]) rfl ?_
    simp [q13]
   refine spc l6 rfl (fun g16 l6 => ?_) fun g16 l6 => ?_
   ·refine cutA 19 1 [(4, .int .i64 i3)] [w2.d] <| zAB <| zAJ <| zAE ?_
    replace h := retL l6 h
    refine zAE <| zAJ <| zAE ?_
    obtain rfl := oi h
    simp
   refine zAF <| zCx <| zAP ?_
   have q17 : Rng .i64 (((i3 : Nat) : Int) + 1) := by simp only [Rng, inR]; omega
   try simp at q17
   refine last 19 1 [(0, .sl (s1.map zJC.c)), (1, .fn (.func 113) [] [.mptr 0 0]), (7, .int .i64 s1.length), (8, .int .i64 ((i3 + 1 : Nat) : Int))] [w2.d] (st (by simp [q17])) fun zz hs => ?_
   exact ⟨(k8, i3 + 1), hs, l6, by simp⟩
  have c19 := ltF g9
  refine zD3 0 rfl fun f20 => ?_
  rw [List.length_map] at f20
  refine zBR <| zAc ?_
  rcases o5 with o5 | o4
  ·cases l6
  have q21 := Sum.inr.inj (Option.some.inj l6)
  replace h := zFp h
  refine zAc <| zBQ <| zBT (t := mkS 19 1 [] [w2.d]) ?_ (zBS (by simp))
  refine cutA 19 1 [(4, .int .i64 (-1))] [w2.d] <| zAB ?_
  obtain rfl := oi h
  simp
theorem zDt (fuel : Nat) (s1 : (List zJC)) (w2 : zJC) (r : Bool) (h : zBL fuel s1 w2 = some r) : Raw Tryz.prog 18 [.sl (s1.map zJC.c), .fn (.func 113) [] [.mptr 0 0]] [w2.d] (.bool r) [w2.d] := by
 rw [zBL] at h
 refine zA6 Tryz.func18 (by rfl) (by rfl) (by simp) (by simp) <| cutA 9 1 [(0, .sl (s1.map zJC.c)), (1, .fn (.func 113) [] [.mptr 0 0])] [w2.d] ?_
 obtain ⟨v3, q4, h⟩ := bs h
 refine cut 9 1 [(4, .bool (leI 0 v3))] [w2.d] ?_ ?_
 ·refine st ?_
  simp
  have r5 := (zEJ fuel s1 w2 v3 q4).frame [0] [w2.d] (by simp)
  try simp at r5
  refine zAR r5 (by simp) rfl ?_
  simp
 refine zAB ?_
 obtain rfl := oi h
 simp
theorem zHp (fuel : Nat) (l1 : (List zJC)) (r : Bool) (h : zDf fuel l1 = some r) : Pure Tryz.prog 94 [.sl (l1.map zJC.c)] (.bool r) := by
 rw [zDf] at h
 refine zAO Tryz.func94 (by rfl) (by rfl) (by simp) (by simp) (by simp) <| cutA 18 0 [(0, .sl (l1.map zJC.c))] [] <| zAM <| cutA 18 0 [(0, .sl (l1.map zJC.c)), (5, .sl (l1.map zJC.c)), (6, .int .i64 l1.length), (7, .int .i64 0)] [] <| zAU ?_
 obtain ⟨o4, l5, h⟩ := bs h
 refine zB2 (fun p : Nat × Nat => mkS 18 0 [(0, .sl (l1.map zJC.c)), (5, .sl (l1.map zJC.c)), (6, .int .i64 l1.length), (7, .int .i64 p.2)] []) (fun p => zCR fuel l1 p.1 p.2 = some o4) (fun p => p.1) (fuel, 0) l5 (zBS (by simp)) ?_
 rintro ⟨k6, i2⟩ l5
 dsimp only at l5 ⊢
 cases k6 with
 | zero =>
  rw [zCR] at l5; cases l5
 | succ k7 =>
  rw [zCR] at l5
  refine cutA 18 0 [(0, .sl (l1.map zJC.c)), (5, .sl (l1.map zJC.c)), (6, .int .i64 l1.length), (7, .int .i64 i2), (8, .bool (ltI ((i2 : Nat) : Int) (l1.length : Int)))] [] <| zAM <| spc l5 rfl (fun g8 l5 => ?_) fun g8 l5 => ?_
  ·have c9 := ltT g8
   refine zD3 0 rfl fun f10 => ?_
   rw [List.length_map] at f10
   refine zAF <| zAP <| zAM <| zAU ?_
   obtain ⟨x11, q12, l5⟩ := bs l5
   refine cut 18 0 [(0, .sl (l1.map zJC.c)), (3, .int .i64 i2), (4, .mptr 0 0), (5, .sl (l1.map zJC.c)), (6, .int .i64 l1.length), (7, .int .i64 i2)] [x11.d] (st (by simp [q12])) ?_
   obtain ⟨l13, q14, l5⟩ := bs l5
   obtain ⟨q15, q16⟩ := zEW q14
   try simp at q15
   try simp at q16
   obtain ⟨v17, q18, l5⟩ := bs l5
   refine cut 18 0 [(0, .sl (l1.map zJC.c)), (5, .sl (l1.map zJC.c)), (6, .int .i64 l1.length), (7, .int .i64 i2), (16, .bool v17)] [x11.d] ?_ ?_
   ·refine st ?_
    simp [q15, q16]
    have r21 := (zDt fuel l13 x11 v17 q18).frame [0] [x11.d] (by simp)
    try simp [q15, q16] at r21
    refine zAR r21 (by simp [q15, q16]) rfl ?_
    simp [q15, q16]
   refine spc l5 rfl (fun g19 l5 => ?_) fun g19 l5 => ?_
   ·refine cutA 18 0 [(2, .bool false)] [x11.d] <| zAB <| zAJ <| zAE ?_
    replace h := retL l5 h
    refine zAE <| zAJ <| zAE ?_
    obtain rfl := oi h
    simp
   refine zAF <| zCx <| zAP ?_
   have q20 : Rng .i64 (((i2 : Nat) : Int) + 1) := by simp only [Rng, inR]; omega
   try simp at q20
   refine last 18 0 [(0, .sl (l1.map zJC.c)), (5, .sl (l1.map zJC.c)), (6, .int .i64 l1.length), (7, .int .i64 ((i2 + 1 : Nat) : Int))] [] (st (by simp [q20])) fun zz hs => ?_
   exact ⟨(k7, i2 + 1), hs, l5, by simp⟩
  have c22 := ltF g8
  refine zD3 0 rfl fun f23 => ?_
  rw [List.length_map] at f23
  refine zBR <| zAc ?_
  rcases o4 with o4 | o3
  ·cases l5
  have q24 := Sum.inr.inj (Option.some.inj l5)
  replace h := zFp h
  refine zAc <| zBQ <| zBT (t := mkS 18 0 [] []) ?_ (zBS (by simp))
  refine cutA 18 0 [(2, .bool true)] [] <| zAB ?_
  obtain rfl := oi h
  simp
theorem zIE (fuel : Nat) (t1 : zJC) (r : Bool) (h : zAV fuel t1 = some r) : Pure Tryz.prog 57 [.agg t1.d] (.bool r) := by
 rw [zAV] at h
 refine zAO Tryz.func57 (by rfl) (by rfl) (by simp) (by simp) (by simp) <| cutA 302 0 [(1, .mptr 0 0)] [t1.d] <| cutA 302 0 [(1, .mptr 0 0), (3, .int .i64 t1.L.length)] [t1.d] <| zAM <| cutA 302 0 [(1, .mptr 0 0), (3, .int .i64 t1.L.length), (8, .int .i64 t1.Op)] [t1.d] <| zAU <| zAM ?_
 refine cutA 302 0 [(1, .mptr 0 0), (3, .int .i64 t1.L.length), (8, .int .i64 t1.Op), (9, .bool (eqI t1.Op 1))] [t1.d] <| spc h rfl (fun g2 h => ?_) fun g2 h => ?_
 ·refine zAF <| zAP <| zBE rfl (by simp [g2]) <| cutA 302 0 [(2, .bool (eqI (t1.L.length : Int) 0))] [t1.d] <| zAB <| zAJ <| zAE ?_
  obtain rfl := oi h
  simp
 refine cutA 302 0 [(1, .mptr 0 0), (3, .int .i64 t1.L.length), (8, .int .i64 t1.Op), (9, .bool (eqI t1.Op 5))] [t1.d] <| spc h rfl (fun g5 h => ?_) fun g5 h => ?_
 ·refine zAF <| zAP <| zBE rfl (by simp [g5]) <| cutA 302 0 [(2, .bool (eqI (t1.L.length : Int) 0))] [t1.d] <| zAB <| zAJ <| zAE ?_
  obtain rfl := oi h
  simp
 refine cutA 302 0 [(1, .mptr 0 0), (3, .int .i64 t1.L.length), (8, .int .i64 t1.Op), (9, .bool (eqI t1.Op 11))] [t1.d] <| spc h rfl (fun g8 h => ?_) fun g8 h => ?_
 ·refine zAF <| zAP <| zBE rfl (by simp [g8]) <| cutA 302 0 [(2, .bool (eqI (t1.L.length : Int) 0))] [t1.d] <| zAB <| zAJ <| zAE ?_
  obtain rfl := oi h
  simp
 refine cutA 302 0 [(1, .mptr 0 0), (3, .int .i64 t1.L.length), (8, .int .i64 t1.Op), (9, .bool (eqI t1.Op 12))] [t1.d] <| spc h rfl (fun g11 h => ?_) fun g11 h => ?_
 ·refine zAF <| zAP <| zBE rfl (by simp [g11]) <| cutA 302 0 [(2, .bool (eqI (t1.L.length : Int) 0))] [t1.d] <| zAB <| zAJ <| zAE ?_
  obtain rfl := oi h
  simp
 refine cutA 302 0 [(1, .mptr 0 0), (3, .int .i64 t1.L.length), (8, .int .i64 t1.Op), (9, .bool (eqI t1.Op 13))] [t1.d] <| spc h rfl (fun g14 h => ?_) fun g14 h => ?_
 ·refine zAF <| zAP <| zBE rfl (by simp [g14]) <| cutA 302 0 [(2, .bool (eqI (t1.L.length : Int) 0))] [t1.d] <| zAB <| zAJ <| zAE ?_
  obtain rfl := oi h
  simp
 refine cutA 302 0 [(1, .mptr 0 0), (3, .int .i64 t1.L.length), (8, .int .i64 t1.Op), (9, .bool (eqI t1.Op 21))] [t1.d] <| spc h rfl (fun g17 h => ?_) fun g17 h => ?_
 ·refine zAF <| zAP <| zBE rfl (by simp [g17]) <| cutA 302 0 [(2, .bool (eqI (t1.L.length : Int) 0))] [t1.d] <| zAB <| zAJ <| zAE ?_
  obtain rfl := oi h
  simp
 refine cutA 302 0 [(1, .mptr 0 0), (3, .int .i64 t1.L.length), (8, .int .i64 t1.Op), (9, .bool (eqI t1.Op 22))] [t1.d] <| spc h rfl (fun g20 h => ?_) fun g20 h => ?_
 ·refine zAF <| zAP <| zBE rfl (by simp [g20]) <| cutA 302 0 [(2, .bool (eqI (t1.L.length : Int) 0))] [t1.d] <| zAB <| zAJ <| zAE ?_
  obtain rfl := oi h
  simp
 refine cutA 302 0 [(1, .mptr 0 0), (3, .int .i64 t1.L.length), (8, .int .i64 t1.Op), (9, .bool (eqI t1.Op 23))] [t1.d] <| spc h rfl (fun g23 h => ?_) fun g23 h => ?_
 ·refine zAF <| zAP <| zBE rfl (by simp [g23]) <| cutA 302 0 [(2, .bool (eqI (t1.L.length : Int) 0))] [t1.d] <| zAB <| zAJ <| zAE ?_
  obtain rfl := oi h
  simp
 refine cutA 302 0 [(1, .mptr 0 0), (3, .int .i64 t1.L.length), (8, .int .i64 t1.Op), (9, .bool (eqI t1.Op 24))] [t1.d] <| spc h rfl (fun g26 h => ?_) fun g26 h => ?_
 ·refine zAF <| zAP <| zBE rfl (by simp [g26]) <| cutA 302 0 [(2, .bool (eqI (t1.L.length : Int) 0))] [t1.d] <| zAB <| zAJ <| zAE ?_
  obtain rfl := oi h
  simp
 refine cutA 302 0 [(1, .mptr 0 0), (3, .int .i64 t1.L.length), (8, .int .i64 t1.Op), (9, .bool (eqI t1.Op 48))] [t1.d] <| spc h rfl (fun g29 h => ?_) fun g29 h => ?_
 ·refine zAF <| zAP <| zBE rfl (by simp [g29]) <| cutA 302 0 [(2, .bool (eqI (t1.L.length : Int) 0))] [t1.d] <| zAB <| zAJ <| zAE ?_
  obtain rfl := oi h
  simp
 refine cutA 302 0 [(1, .mptr 0 0), (3, .int .i64 t1.L.length), (8, .int .i64 t1.Op), (9, .bool (eqI t1.Op 49))] [t1.d] <| spc h rfl (fun g32 h => ?_) fun g32 h => ?_
 ·refine zAF <| zAP <| zBE rfl (by simp [g32]) <| cutA 302 0 [(2, .bool (eqI (t1.L.length : Int) 0))] [t1.d] <| zAB <| zAJ <| zAE ?_
  obtain rfl := oi h
  simp
 refine cutA 302 0 [(1, .mptr 0 0), (3, .int .i64 t1.L.length), (8, .int .i64 t1.Op), (9, .bool (eqI t1.Op 62))] [t1.d] <| spc h rfl (fun g35 h => ?_) fun g35 h => ?_
 ·refine zAF <| zAP <| zBE rfl (by simp [g35]) <| cutA 302 0 [(2, .bool (eqI (t1.L.length : Int) 0))] [t1.d] <| zAB <| zAJ <| zAE ?_
  obtain rfl := oi h
  simp
 refine cutA 302 0 [(1, .mptr 0 0), (3, .int .i64 t1.L.length), (8, .int .i64 t1.Op), (9, .bool (eqI t1.Op 72))] [t1.d] <| spc h rfl (fun g38 h => ?_) fun g38 h => ?_
 ·refine zAF <| zAP <| zBE rfl (by simp [g38]) <| cutA 302 0 [(2, .bool (eqI (t1.L.length : Int) 0))] [t1.d] <| zAB <| zAJ <| zAE ?_
  obtain rfl := oi h
  simp
 refine zEf 302 0 [(1, .mptr 0 0), (3, .int .i64 t1.L.length), (8, .int .i64 t1.Op), (9, .bool (eqI t1.Op 82))] [t1.d] <| spc h rfl (fun g41 h => ?_) fun g41 h => ?_
 ·have c42 := eqT g41
  refine cutA 302 0 [(2, .bool (eqI (t1.L.length : Int) 0))] [t1.d] <| zAB <| zAJ <| zAE ?_
  obtain rfl := oi h
  simp
 have c43 := eqF g41
 refine cutA 302 0 [(1, .mptr 0 0), (3, .int .i64 t1.L.length), (8, .int .i64 t1.Op), (26, .bool (eqI t1.Op 2))] [t1.d] <| spc h rfl (fun g44 h => ?_) fun g44 h => ?_
 ·obtain ⟨v46, q47, h⟩ := bs h
  refine cut 302 0 [(2, .bool v46)] [t1.d] ?_ ?_
  ·refine st ?_
   simp
   have r48 := zC1 fuel t1.L 1 0 4 v46 q47
   try simp at r48
   refine zAA r48 (by simp) rfl ?_
   simp
  refine zAB <| zAJ <| zAE ?_
  obtain rfl := oi h
  simp
 refine cutA 302 0 [(1, .mptr 0 0), (3, .int .i64 t1.L.length), (8, .int .i64 t1.Op), (31, .bool (eqI t1.Op 3))] [t1.d] <| spc h rfl (fun g50 h => ?_) fun g50 h => ?_
 ·obtain ⟨l52, q53, h⟩ := bs h
  obtain ⟨q54, q55⟩ := zD6 q53
  obtain ⟨v56, q57, h⟩ := bs h
  refine cut 302 0 [(2, .bool v56)] [t1.d] ?_ ?_
  ·refine st ?_
   simp [q54, q55]
   have r58 := zAz fuel t1 l52 v56 q57
   try simp [q54, q55] at r58
   refine zAA r58 (by simp) rfl ?_
   simp [q54, q55]
  refine zAB <| zAJ <| zAE ?_
  obtain rfl := oi h
  simp
 refine cutA 302 0 [(1, .mptr 0 0), (3, .int .i64 t1.L.length), (8, .int .i64 t1.Op), (36, .bool (eqI t1.Op 4))] [t1.d] <| spc h rfl (fun g60 h => ?_) fun g60 h => ?_
 ·obtain ⟨v62, q63, h⟩ := bs h
  refine cut 302 0 [(2, .bool v62)] [t1.d] ?_ ?_
  ·refine st ?_
   simp
   have r64 := zC1 fuel t1.L 1 2 9 v62 q63
   try simp at r64
   refine zAA r64 (by simp) rfl ?_
   simp
  refine zAB <| zAJ <| zAE ?_
  obtain rfl := oi h
  simp
 refine cutA 302 0 [(1, .mptr 0 0), (3, .int .i64 t1.L.length), (8, .int .i64 t1.Op), (41, .bool (eqI t1.Op 14))] [t1.d] <| spc h rfl (fun g66 h => ?_) fun g66 h => ?_
 ·obtain ⟨v68, q69, h⟩ := bs h
  refine cut 302 0 [(2, .bool v68)] [t1.d] ?_ ?_
  ·refine st ?_
   simp
   have r70 := zC1 fuel t1.L 2 0 1 v68 q69
   try simp at r70
   refine zAA r70 (by simp) rfl ?_
   simp
  refine zAB <| zAJ <| zAE ?_
  obtain rfl := oi h
  simp
 refine cutA 302 0 [(1, .mptr 0 0), (3, .int .i64 t1.L.length), (8, .int .i64 t1.Op), (46, .bool (eqI t1.Op 15))] [t1.d] <| spc h rfl (fun g72 h => ?_) fun g72 h => ?_
 ·obtain ⟨b81, q82, h⟩ := bs h
  refine cut 302 0 [(2, .bool b81)] [t1.d] ?_ ?_
  ·rcases sp q82 with ⟨g74, q82⟩ | ⟨g74, q82⟩
   ·have g75 := notT g74
    have c76 := eqF g75
    obtain ⟨v77, q78, q82⟩ := bs q82
    obtain rfl := oi q82
    refine st ?_
    simp [g74]
    have r83 := zC1 fuel t1.L 2 0 9 v77 q78
    try simp [g74] at r83
    refine zAA r83 (by simp) rfl ?_
    simp [g74]
   have g79 := notF g74
   have c80 := eqT g79
   obtain rfl := oi q82
   refine st ?_
   simp [g74]
  refine zAB <| zAJ <| zAE ?_
  obtain rfl := oi h
  simp
 refine zAM <| cutA 302 0 [(1, .mptr 0 0), (3, .int .i64 t1.L.length), (8, .int .i64 t1.Op), (55, .bool (eqI t1.Op 25))] [t1.d] <| spc h rfl (fun g85 h => ?_) fun g85 h => ?_
 ·refine zAF <| zAP <| zBE rfl (by simp [g85]) ?_
  obtain ⟨v87, q88, h⟩ := bs h
  refine cut 302 0 [(2, .bool v87)] [t1.d] ?_ ?_
  ·refine st ?_
   simp
   have r89 := zAz fuel t1 [3] v87 q88
   try simp at r89
   refine zAA r89 (by simp) rfl ?_
   simp
  refine zAB <| zAJ <| zAE ?_
  obtain rfl := oi h
  simp
 refine cutA 302 0 [(1, .mptr 0 0), (3, .int .i64 t1.L.length), (8, .int .i64 t1.Op), (55, .bool (eqI t1.Op 41))] [t1.d] <| spc h rfl (fun g91 h => ?_) fun g91 h => ?_
 ·refine zAF <| zAP <| zBE rfl (by simp [g91]) ?_
  obtain ⟨v93, q94, h⟩ := bs h
  refine cut 302 0 [(2, .bool v93)] [t1.d] ?_ ?_
  ·refine st ?_
   simp
   have r95 := zAz fuel t1 [3] v93 q94
   try simp at r95
   refine zAA r95 (by simp) rfl ?_
   simp
  refine zAB <| zAJ <| zAE ?_
  obtain rfl := oi h
  simp
 refine zEf 302 0 [(1, .mptr 0 0), (3, .int .i64 t1.L.length), (8, .int .i64 t1.Op), (55, .bool (eqI t1.Op 42))] [t1.d] <| spc h rfl (fun g97 h => ?_) fun g97 h => ?_
 ·have c98 := eqT g97
  obtain ⟨v99, q100, h⟩ := bs h
  refine cut 302 0 [(2, .bool v99)] [t1.d] ?_ ?_
  ·refine st ?_
   simp
   have r101 := zAz fuel t1 [3] v99 q100
   try simp at r101
   refine zAA r101 (by simp) rfl ?_
   simp
  refine zAB <| zAJ <| zAE ?_
  obtain rfl := oi h
  simp
 have c102 := eqF g97
 refine cutA 302 0 [(1, .mptr 0 0), (3, .int .i64 t1.L.length), (8, .int .i64 t1.Op), (62, .bool (eqI t1.Op 26))] [t1.d] <| spc h rfl (fun g103 h => ?_) fun g103 h => ?_
 ·obtain ⟨l105, q106, h⟩ := bs h
  obtain ⟨q107, q108⟩ := zD6 q106
  obtain ⟨v109, q110, h⟩ := bs h
  refine cut 302 0 [(2, .bool v109)] [t1.d] ?_ ?_
  ·refine st ?_
   simp [q107, q108]
   have r111 := zAz fuel t1 l105 v109 q110
   try simp [q107, q108] at r111
   refine zAA r111 (by simp) rfl ?_
   simp [q107, q108]
  refine zAB <| zAJ <| zAE ?_
  obtain rfl := oi h
  simp
 refine cutA 302 0 [(1, .mptr 0 0), (3, .int .i64 t1.L.length), (8, .int .i64 t1.Op), (67, .bool (eqI t1.Op 27))] [t1.d] <| spc h rfl (fun g113 h => ?_) fun g113 h => ?_
 ·obtain ⟨b122, q123, h⟩ := bs h
  refine cut 302 0 [(2, .bool b122)] [t1.d] ?_ ?_
  ·rcases sp q123 with ⟨g115, q123⟩ | ⟨g115, q123⟩
   ·have g116 := notT g115
    have c117 := eqF g116
    obtain ⟨v118, q119, q123⟩ := bs q123
    obtain rfl := oi q123
    refine st ?_
    simp [g115]
    have r124 := zC1 fuel t1.L 3 0 9 v118 q119
    try simp [g115] at r124
    refine zAA r124 (by simp) rfl ?_
    simp [g115]
   have g120 := notF g115
   have c121 := eqT g120
   obtain rfl := oi q123
   refine st ?_
   simp [g115]
  refine zAB <| zAJ <| zAE ?_
  obtain rfl := oi h
  simp
 refine cutA 302 0 [(1, .mptr 0 0), (3, .int .i64 t1.L.length), (8, .int .i64 t1.Op), (76, .bool (eqI t1.Op 28))] [t1.d] <| spc h rfl (fun g126 h => ?_) fun g126 h => ?_
 ·obtain ⟨l128, q129, h⟩ := bs h
  obtain ⟨q130, q131⟩ := zD6 q129
  obtain ⟨v132, q133, h⟩ := bs h
  refine cut 302 0 [(2, .bool v132)] [t1.d] ?_ ?_
  ·refine st ?_
   simp [q130, q131]
   have r134 := zAz fuel t1 l128 v132 q133
   try simp [q130, q131] at r134
   refine zAA r134 (by simp) rfl ?_
   simp [q130, q131]
  refine zAB <| zAJ <| zAE ?_
  obtain rfl := oi h
  simp
 refine cutA 302 0 [(1, .mptr 0 0), (3, .int .i64 t1.L.length), (8, .int .i64 t1.Op), (81, .bool (eqI t1.Op 29))] [t1.d] <| spc h rfl (fun g136 h => ?_) fun g136 h => ?_
 ·obtain ⟨b154, q155, h⟩ := bs h
  refine cut 302 0 [(2, .bool b154)] [t1.d] ?_ ?_
  ·rcases sp q155 with ⟨g138, q155⟩ | ⟨g138, q155⟩
   ·have c139 := leT g138
    refine zCJ 0 4 rfl rfl rfl fun f140 => ?_
    rw [List.length_map] at f140
    obtain ⟨x141, q142, q155⟩ := bs q155
    obtain ⟨v143, q144, q155⟩ := bs q155
    rcases sp q155 with ⟨g145, q155⟩ | ⟨g145, q155⟩
    ·obtain ⟨l146, q147, q155⟩ := bs q155
     obtain ⟨q148, q149⟩ := zEW q147
     try simp at q148
     try simp at q149
     obtain ⟨v150, q151, q155⟩ := bs q155
     obtain rfl := oi q155
     refine st ?_
     simp [g138, q142, g145, q148, q149]
     have r156 := zBB 3 x141 v143 q144
     try simp [g138, q142, g145, q148, q149] at r156
     refine zAA r156 (by simp) rfl ?_
     simp [g138, q142, g145, q148, q149]
     have r157 := zCf fuel l146 [30] v150 q151
     try simp [g138, q142, g145, q148, q149] at r157
     refine zAA r157 (by simp) rfl ?_
     simp [g138, q142, g145, q148, q149]
    obtain rfl := oi q155
    refine st ?_
    simp [g138, q142, g145]
    have r158 := zBB 3 x141 v143 q144
    try simp [g138, q142, g145] at r158
    refine zAA r158 (by simp) rfl ?_
    simp [g138, q142, g145]
   have c152 := leF g138
   refine zCJ 0 4 rfl rfl rfl fun f153 => ?_
   rw [List.length_map] at f153
   obtain rfl := oi q155
   refine st ?_
   simp [g138]
  refine zAB <| zAJ <| zAE ?_
  obtain rfl := oi h
  simp
 refine cutA 302 0 [(1, .mptr 0 0), (3, .int .i64 t1.L.length), (8, .int .i64 t1.Op), (99, .bool (eqI t1.Op 30))] [t1.d] <| spc h rfl (fun g160 h => ?_) fun g160 h => ?_
 ·obtain ⟨l162, q163, h⟩ := bs h
  obtain ⟨q164, q165⟩ := zD6 q163
  obtain ⟨v166, q167, h⟩ := bs h
  refine cut 302 0 [(2, .bool v166)] [t1.d] ?_ ?_
  ·refine st ?_
   simp [q164, q165]
   have r168 := zAz fuel t1 l162 v166 q167
   try simp [q164, q165] at r168
   refine zAA r168 (by simp) rfl ?_
   simp [q164, q165]
  refine zAB <| zAJ <| zAE ?_
  obtain rfl := oi h
  simp
 refine cutA 302 0 [(1, .mptr 0 0), (3, .int .i64 t1.L.length), (8, .int .i64 t1.Op), (104, .bool (eqI t1.Op 31))] [t1.d] <| spc h rfl (fun g170 h => ?_) fun g170 h => ?_
 ·obtain ⟨b196, q197, h⟩ := bs h
  refine cut 302 0 [(2, .bool b196)] [t1.d] ?_ ?_
  ·rcases sp q197 with ⟨g172, q197⟩ | ⟨g172, q197⟩
   ·have c173 := leT g172
    refine zCJ 0 4 rfl rfl rfl fun f174 => ?_
    rw [List.length_map] at f174
    have q175 : Rng .i64 ((t1.L.length : Int) - 1) := by simp only [Rng, inR]; omega
    try simp at q175
    obtain ⟨x176, q177, q197⟩ := bs q197
    obtain ⟨q178, q179⟩ := idxp_ok q177
    obtain ⟨v180, q181, q197⟩ := bs q197
    rcases sp q197 with ⟨g182, q197⟩ | ⟨g182, q197⟩
    ·have q183 : Rng .i64 ((t1.L.length : Int) - 1) := by simp only [Rng, inR]; omega
     try simp at q183
     obtain ⟨l184, q185, q197⟩ := bs q197
     obtain ⟨q186, q187⟩ := zEW q185
     try simp at q186
     try simp at q187
     obtain ⟨l188, q189, q197⟩ := bs q197
     obtain ⟨q190, q191⟩ := zD6 q189
     obtain ⟨v192, q193, q197⟩ := bs q197
     obtain rfl := oi q197
     refine st ?_
     simp [g172, q175, q178, q179, g182, q183, q186, q187, q190, q191]
     have r198 := zBB 3 x176 v180 q181
     try simp [g172, q175, q178, q179, g182, q183, q186, q187, q190, q191] at r198
     refine zAA r198 (by simp) rfl ?_
     simp [g172, q175, q178, q179, g182, q183, q186, q187, q190, q191]
     have r199 := zCf fuel l184 l188 v192 q193
     try simp [g172, q175, q178, q179, g182, q183, q186, q187, q190, q191] at r199
     refine zAA r199 (by simp) rfl ?_
     simp [g172, q175, q178, q179, g182, q183, q186, q187, q190, q191]
    obtain rfl := oi q197
    refine st ?_
    simp [g172, q175, q178, q179, g182]
    have r200 := zBB 3 x176 v180 q181
    try simp [g172, q175, q178, q179, g182] at r200
    refine zAA r200 (by simp) rfl ?_
    simp [g172, q175, q178, q179, g182]
   have c194 := leF g172
   refine zCJ 0 4 rfl rfl rfl fun f195 => ?_
   rw [List.length_map] at f195
   obtain rfl := oi q197
   refine st ?_
   simp [g172]
  refine zAB <| zAJ <| zAE ?_
  obtain rfl := oi h
  simp
 refine cutA 302 0 [(1, .mptr 0 0), (3, .int .i64 t1.L.length), (8, .int .i64 t1.Op), (126, .bool (eqI t1.Op 32))] [t1.d] <| spc h rfl (fun g202 h => ?_) fun g202 h => ?_
 ·refine zAM <| cutA 302 0 [(1, .mptr 0 0), (130, .bool (eqI t1.N 12))] [t1.d] <| spc h rfl (fun g204 h => ?_) fun g204 h => ?_
  ·obtain ⟨v206, q207, h⟩ := bs h
   refine cut 302 0 [(2, .bool v206)] [t1.d] ?_ ?_
   ·refine st ?_
    simp
    have r208 := zAz fuel t1 [3] v206 q207
    try simp at r208
    refine zAA r208 (by simp) rfl ?_
    simp
   refine zAB <| zAE <| zAJ <| zAE ?_
   obtain rfl := oi h
   simp
  refine zAF <| zAP ?_
  obtain ⟨l210, q211, h⟩ := bs h
  obtain ⟨q212, q213⟩ := zD6 q211
  obtain ⟨v214, q215, h⟩ := bs h
  refine cut 302 0 [(2, .bool v214)] [t1.d] ?_ ?_
  ·refine st ?_
   simp [q212, q213]
   have r216 := zAz fuel t1 l210 v214 q215
   try simp [q212, q213] at r216
   refine zAA r216 (by simp) rfl ?_
   simp [q212, q213]
  refine zAB <| zAJ <| zAE ?_
  obtain rfl := oi h
  simp
 refine cutA 302 0 [(1, .mptr 0 0), (3, .int .i64 t1.L.length), (8, .int .i64 t1.Op), (137, .bool (eqI t1.Op 33))] [t1.d] <| spc h rfl (fun g218 h => ?_) fun g218 h => ?_
 ·obtain ⟨l220, q221, h⟩ := bs h
  obtain ⟨q222, q223⟩ := zD6 q221
  obtain ⟨v224, q225, h⟩ := bs h
  refine cut 302 0 [(2, .bool v224)] [t1.d] ?_ ?_
  ·refine st ?_
   simp [q222, q223]
   have r226 := zAz fuel t1 l220 v224 q225
   try simp [q222, q223] at r226
   refine zAA r226 (by simp) rfl ?_
   simp [q222, q223]
  refine zAB <| zAJ <| zAE ?_
  obtain rfl := oi h
  simp
 refine cutA 302 0 [(1, .mptr 0 0), (3, .int .i64 t1.L.length), (8, .int .i64 t1.Op), (142, .bool (eqI t1.Op 34))] [t1.d] <| spc h rfl (fun g228 h => ?_) fun g228 h => ?_
 ·obtain ⟨b235, q236, h⟩ := bs h
  refine cut 302 0 [(2, .bool b235)] [t1.d] ?_ ?_
  ·rcases sp q236 with ⟨g230, q236⟩ | ⟨g230, q236⟩
   ·have c231 := eqT g230
    obtain ⟨v232, q233, q236⟩ := bs q236
    obtain rfl := oi q236
    refine st ?_
    simp [g230]
    have r237 := zCf fuel t1.L [72] v232 q233
    try simp [g230] at r237
    refine zAA r237 (by simp) rfl ?_
    simp [g230]
   have c234 := eqF g230
   obtain rfl := oi q236
   refine st ?_
   simp [g230]
  refine zAB <| zAJ <| zAE ?_
  obtain rfl := oi h
  simp
 refine zAM <| cutA 302 0 [(1, .mptr 0 0), (3, .int .i64 t1.L.length), (8, .int .i64 t1.Op), (152, .bool (eqI t1.Op 43))] [t1.d] <| spc h rfl (fun g239 h => ?_) fun g239 h => ?_
 ·refine zAF <| zAP <| zBE rfl (by simp [g239]) ?_
  obtain ⟨v241, q242, h⟩ := bs h
  refine cut 302 0 [(2, .bool v241)] [t1.d] ?_ ?_
  ·refine st ?_
   simp
   have r243 := zAz fuel t1 [1] v241 q242
   try simp at r243
   refine zAA r243 (by simp) rfl ?_
   simp
  refine zAB <| zAJ <| zAE ?_
  obtain rfl := oi h
  simp
 refine zEf 302 0 [(1, .mptr 0 0), (3, .int .i64 t1.L.length), (8, .int .i64 t1.Op), (152, .bool (eqI t1.Op 61))] [t1.d] <| spc h rfl (fun g245 h => ?_) fun g245 h => ?_
 ·have c246 := eqT g245
  obtain ⟨v247, q248, h⟩ := bs h
  refine cut 302 0 [(2, .bool v247)] [t1.d] ?_ ?_
  ·refine st ?_
   simp
   have r249 := zAz fuel t1 [1] v247 q248
   try simp at r249
   refine zAA r249 (by simp) rfl ?_
   simp
  refine zAB <| zAJ <| zAE ?_
  obtain rfl := oi h
  simp
 have c250 := eqF g245
 refine cutA 302 0 [(1, .mptr 0 0), (3, .int .i64 t1.L.length), (8, .int .i64 t1.Op), (158, .bool (eqI t1.Op 44))] [t1.d] <| spc h rfl (fun g251 h => ?_) fun g251 h => ?_
 ·obtain ⟨b263, q264, h⟩ := bs h
  refine cut 302 0 [(2, .bool b263)] [t1.d] ?_ ?_
  ·rcases sp q264 with ⟨g253, q264⟩ | ⟨g253, q264⟩
   ·have c254 := leT g253
    refine zCJ 0 4 rfl rfl rfl fun f255 => ?_
    rw [List.length_map] at f255
    obtain ⟨v256, q257, q264⟩ := bs q264
    rcases sp q264 with ⟨g258, q264⟩ | ⟨g258, q264⟩
    ·obtain ⟨v259, q260, q264⟩ := bs q264
     obtain rfl := oi q264
     refine st ?_
     simp [g253, g258]
     have r265 := zCf fuel t1.L [45] v256 q257
     try simp [g253, g258] at r265
     refine zAA r265 (by simp) rfl ?_
     simp [g253, g258]
     have r266 := zHp fuel t1.L v259 q260
     try simp [g253, g258] at r266
     refine zAA r266 (by simp) rfl ?_
     simp [g253, g258]
    obtain rfl := oi q264
    refine st ?_
    simp [g253, g258]
    have r267 := zCf fuel t1.L [45] v256 q257
    try simp [g253, g258] at r267
    refine zAA r267 (by simp) rfl ?_
    simp [g253, g258]
   have c261 := leF g253
   refine zCJ 0 4 rfl rfl rfl fun f262 => ?_
   rw [List.length_map] at f262
   obtain rfl := oi q264
   refine st ?_
   simp [g253]
  refine zAB <| zAJ <| zAE ?_
  obtain rfl := oi h
  simp
 refine cutA 302 0 [(1, .mptr 0 0), (3, .int .i64 t1.L.length), (8, .int .i64 t1.Op), (173, .bool (eqI t1.Op 45))] [t1.d] <| spc h rfl (fun g269 h => ?_) fun g269 h => ?_
 ·obtain ⟨v271, q272, h⟩ := bs h
  refine cut 302 0 [(2, .bool v271)] [t1.d] ?_ ?_
  ·refine st ?_
   simp
   have r273 := zC1 fuel t1.L 1 0 1 v271 q272
   try simp at r273
   refine zAA r273 (by simp) rfl ?_
   simp
  refine zAB <| zAJ <| zAE ?_
  obtain rfl := oi h
  simp
 refine cutA 302 0 [(1, .mptr 0 0), (3, .int .i64 t1.L.length), (8, .int .i64 t1.Op), (178, .bool (eqI t1.Op 46))] [t1.d] <| spc h rfl (fun g275 h => ?_) fun g275 h => ?_
 ·obtain ⟨v277, q278, h⟩ := bs h
  refine cut 302 0 [(2, .bool v277)] [t1.d] ?_ ?_
  ·refine st ?_
   simp
   have r279 := zAz fuel t1 [7] v277 q278
   try simp at r279
   refine zAA r279 (by simp) rfl ?_
   simp
  refine zAB <| zAJ <| zAE ?_
  obtain rfl := oi h
  simp
 refine zAM <| cutA 302 0 [(1, .mptr 0 0), (3, .int .i64 t1.L.length), (8, .int .i64 t1.Op), (183, .bool (eqI t1.Op 47))] [t1.d] <| spc h rfl (fun g281 h => ?_) fun g281 h => ?_
 ·refine zAF <| zAP <| zBE rfl (by simp [g281]) ?_
  obtain ⟨v283, q284, h⟩ := bs h
  refine cut 302 0 [(2, .bool v283)] [t1.d] ?_ ?_
  ·refine st ?_
   simp
   have r285 := zAz fuel t1 [6] v283 q284
   try simp at r285
   refine zAA r285 (by simp) rfl ?_
   simp
  refine zAB <| zAJ <| zAE ?_
  obtain rfl := oi h
  simp
 refine cutA 302 0 [(1, .mptr 0 0), (3, .int .i64 t1.L.length), (8, .int .i64 t1.Op), (183, .bool (eqI t1.Op 63))] [t1.d] <| spc h rfl (fun g287 h => ?_) fun g287 h => ?_
 ·refine zAF <| zAP <| zBE rfl (by simp [g287]) ?_
  obtain ⟨v289, q290, h⟩ := bs h
  refine cut 302 0 [(2, .bool v289)] [t1.d] ?_ ?_
  ·refine st ?_
   simp
   have r291 := zAz fuel t1 [6] v289 q290
   try simp at r291
   refine zAA r291 (by simp) rfl ?_
   simp
  refine zAB <| zAJ <| zAE ?_
  obtain rfl := oi h
  simp
 refine cutA 302 0 [(1, .mptr 0 0), (3, .int .i64 t1.L.length), (8, .int .i64 t1.Op), (183, .bool (eqI t1.Op 64))] [t1.d] <| spc h rfl (fun g293 h => ?_) fun g293 h => ?_
 ·refine zAF <| zAP <| zBE rfl (by simp [g293]) ?_
  obtain ⟨v295, q296, h⟩ := bs h
  refine cut 302 0 [(2, .bool v295)] [t1.d] ?_ ?_
  ·refine st ?_
   simp
   have r297 := zAz fuel t1 [6] v295 q296
   try simp at r297
   refine zAA r297 (by simp) rfl ?_
   simp
  refine zAB <| zAJ <| zAE ?_
  obtain rfl := oi h
  simp
 refine zEf 302 0 [(1, .mptr 0 0), (3, .int .i64 t1.L.length), (8, .int .i64 t1.Op), (183, .bool (eqI t1.Op 65))] [t1.d] <| spc h rfl (fun g299 h => ?_) fun g299 h => ?_
 ·have c300 := eqT g299
  obtain ⟨v301, q302, h⟩ := bs h
  refine cut 302 0 [(2, .bool v301)] [t1.d] ?_ ?_
  ·refine st ?_
   simp
   have r303 := zAz fuel t1 [6] v301 q302
   try simp at r303
   refine zAA r303 (by simp) rfl ?_
   simp
  refine zAB <| zAJ <| zAE ?_
  obtain rfl := oi h
  simp
 have c304 := eqF g299
 refine zAM <| cutA 302 0 [(1, .mptr 0 0), (3, .int .i64 t1.L.length), (8, .int .i64 t1.Op), (191, .bool (eqI t1.Op 50))] [t1.d] <| spc h rfl (fun g305 h => ?_) fun g305 h => ?_
 ·refine zAF <| zAP <| zBE rfl (by simp [g305]) ?_
  obtain ⟨b321, q322, h⟩ := bs h
  refine cut 302 0 [(2, .bool b321)] [t1.d] ?_ ?_
  ·rcases sp q322 with ⟨g307, q322⟩ | ⟨g307, q322⟩
   ·have c308 := eqT g307
    obtain ⟨x309, q310, q322⟩ := bs q322
    obtain ⟨v311, q312, q322⟩ := bs q322
    rcases sp q322 with ⟨g313, q322⟩ | ⟨g313, q322⟩
    ·obtain ⟨l314, q315, q322⟩ := bs q322
     obtain ⟨q316, q317⟩ := zEW q315
     try simp at q316
     try simp at q317
     obtain ⟨v318, q319, q322⟩ := bs q322
     obtain rfl := oi q322
     refine st ?_
     simp [g307, q310, g313, q316, q317]
     have r323 := zBB 3 x309 v311 q312
     try simp [g307, q310, g313, q316, q317] at r323
     refine zAA r323 (by simp) rfl ?_
     simp [g307, q310, g313, q316, q317]
     have r324 := zCf fuel l314 [72] v318 q319
     try simp [g307, q310, g313, q316, q317] at r324
     refine zAA r324 (by simp) rfl ?_
     simp [g307, q310, g313, q316, q317]
    obtain rfl := oi q322
    refine st ?_
    simp [g307, q310, g313]
    have r325 := zBB 3 x309 v311 q312
    try simp [g307, q310, g313] at r325
    refine zAA r325 (by simp) rfl ?_
    simp [g307, q310, g313]
   have c320 := eqF g307
   obtain rfl := oi q322
   refine st ?_
   simp [g307]
  refine zAB <| zAJ <| zAE ?_
  obtain rfl := oi h
  simp
 refine zEf 302 0 [(1, .mptr 0 0), (3, .int .i64 t1.L.length), (8, .int .i64 t1.Op), (191, .bool (eqI t1.Op 88))] [t1.d] <| spc h rfl (fun g327 h => ?_) fun g327 h => ?_
 ·have c328 := eqT g327
  obtain ⟨b343, q344, h⟩ := bs h
  refine cut 302 0 [(2, .bool b343)] [t1.d] ?_ ?_
  ·rcases sp q344 with ⟨g329, q344⟩ | ⟨g329, q344⟩
   ·have c330 := eqT g329
    obtain ⟨x331, q332, q344⟩ := bs q344
    obtain ⟨v333, q334, q344⟩ := bs q344
    rcases sp q344 with ⟨g335, q344⟩ | ⟨g335, q344⟩
    ·obtain ⟨l336, q337, q344⟩ := bs q344
     obtain ⟨q338, q339⟩ := zEW q337
     try simp at q338
     try simp at q339
     obtain ⟨v340, q341, q344⟩ := bs q344
     obtain rfl := oi q344
     refine st ?_
     simp [g329, q332, g335, q338, q339]
     have r345 := zBB 3 x331 v333 q334
     try simp [g329, q332, g335, q338, q339] at r345
     refine zAA r345 (by simp) rfl ?_
     simp [g329, q332, g335, q338, q339]
     have r346 := zCf fuel l336 [72] v340 q341
     try simp [g329, q332, g335, q338, q339] at r346
     refine zAA r346 (by simp) rfl ?_
     simp [g329, q332, g335, q338, q339]
    obtain rfl := oi q344
    refine st ?_
    simp [g329, q332, g335]
    have r347 := zBB 3 x331 v333 q334
    try simp [g329, q332, g335] at r347
    refine zAA r347 (by simp) rfl ?_
    simp [g329, q332, g335]
   have c342 := eqF g329
   obtain rfl := oi q344
   refine st ?_
   simp [g329]
  refine zAB <| zAJ <| zAE ?_
  obtain rfl := oi h
  simp
 have c348 := eqF g327
 refine cutA 302 0 [(1, .mptr 0 0), (3, .int .i64 t1.L.length), (8, .int .i64 t1.Op), (210, .bool (eqI t1.Op 66))] [t1.d] <| spc h rfl (fun g349 h => ?_) fun g349 h => ?_
 ·obtain ⟨b359, q360, h⟩ := bs h
  refine cut 302 0 [(2, .bool b359)] [t1.d] ?_ ?_
  ·rcases sp q360 with ⟨g351, q360⟩ | ⟨g351, q360⟩
   ·have c352 := eqT g351
    obtain ⟨v353, q354, q360⟩ := bs q360
    rcases sp q360 with ⟨g355, q360⟩ | ⟨g355, q360⟩
    ·obtain ⟨x356, q357, q360⟩ := bs q360
     obtain rfl := oi q360
     refine st ?_
     simp [g351, g355, q357]
     have r361 := zCf fuel t1.L [2] v353 q354
     try simp [g351, g355, q357] at r361
     refine zAA r361 (by simp) rfl ?_
     simp [g351, g355, q357]
    obtain rfl := oi q360
    refine st ?_
    simp [g351, g355]
    have r362 := zCf fuel t1.L [2] v353 q354
    try simp [g351, g355] at r362
    refine zAA r362 (by simp) rfl ?_
    simp [g351, g355]
   have c358 := eqF g351
   obtain rfl := oi q360
   refine st ?_
   simp [g351]
  refine zAB <| zAJ <| zAE ?_
  obtain rfl := oi h
  simp
 refine cutA 302 0 [(1, .mptr 0 0), (3, .int .i64 t1.L.length), (8, .int .i64 t1.Op), (229, .bool (eqI t1.Op 71))] [t1.d] <| spc h rfl (fun g364 h => ?_) fun g364 h => ?_
 ·obtain ⟨v366, q367, h⟩ := bs h
  refine cut 302 0 [(2, .bool v366)] [t1.d] ?_ ?_
  ·refine st ?_
   simp
   have r368 := zC1 fuel t1.L 5 0 (t1.L.length : Int) v366 q367
   try simp at r368
   refine zAA r368 (by simp) rfl ?_
   simp
  refine zAB <| zAJ <| zAE ?_
  obtain rfl := oi h
  simp
 refine cutA 302 0 [(1, .mptr 0 0), (3, .int .i64 t1.L.length), (8, .int .i64 t1.Op), (235, .bool (eqI t1.Op 73))] [t1.d] <| spc h rfl (fun g370 h => ?_) fun g370 h => ?_
 ·obtain ⟨l372, q373, h⟩ := bs h
  obtain ⟨q374, q375⟩ := zD6 q373
  obtain ⟨v376, q377, h⟩ := bs h
  refine cut 302 0 [(2, .bool v376)] [t1.d] ?_ ?_
  ·refine st ?_
   simp [q374, q375]
   have r378 := zAz fuel t1 l372 v376 q377
   try simp [q374, q375] at r378
   refine zAA r378 (by simp) rfl ?_
   simp [q374, q375]
  refine zAB <| zAJ <| zAE ?_
  obtain rfl := oi h
  simp
 refine cutA 302 0 [(1, .mptr 0 0), (3, .int .i64 t1.L.length), (8, .int .i64 t1.Op), (240, .bool (eqI t1.Op 74))] [t1.d] <| spc h rfl (fun g380 h => ?_) fun g380 h => ?_
 ·obtain ⟨b396, q397, h⟩ := bs h
  refine cut 302 0 [(2, .bool b396)] [t1.d] ?_ ?_
  ·rcases sp q397 with ⟨g382, q397⟩ | ⟨g382, q397⟩
   ·have c383 := eqT g382
    obtain ⟨x384, q385, q397⟩ := bs q397
    obtain ⟨v386, q387, q397⟩ := bs q397
    rcases sp q397 with ⟨g388, q397⟩ | ⟨g388, q397⟩
    ·obtain ⟨l389, q390, q397⟩ := bs q397
     obtain ⟨q391, q392⟩ := zEW q390
     try simp at q391
     try simp at q392
     obtain ⟨v393, q394, q397⟩ := bs q397
     obtain rfl := oi q397
     refine st ?_
     simp [g382, q385, g388, q391, q392]
     have r398 := zBB 6 x384 v386 q387
     try simp [g382, q385, g388, q391, q392] at r398
     refine zAA r398 (by simp) rfl ?_
     simp [g382, q385, g388, q391, q392]
     have r399 := zCf fuel l389 [43] v393 q394
     try simp [g382, q385, g388, q391, q392] at r399
     refine zAA r399 (by simp) rfl ?_
     simp [g382, q385, g388, q391, q392]
    obtain rfl := oi q397
    refine st ?_
    simp [g382, q385, g388]
    have r400 := zBB 6 x384 v386 q387
    try simp [g382, q385, g388] at r400
    refine zAA r400 (by simp) rfl ?_
    simp [g382, q385, g388]
   have c395 := eqF g382
   obtain rfl := oi q397
   refine st ?_
   simp [g382]
  refine zAB <| zAJ <| zAE ?_
  obtain rfl := oi h
  simp
 refine cutA 302 0 [(1, .mptr 0 0), (3, .int .i64 t1.L.length), (8, .int .i64 t1.Op), (258, .bool (eqI t1.Op 81))] [t1.d] <| spc h rfl (fun g402 h => ?_) fun g402 h => ?_
 ·obtain ⟨v404, q405, h⟩ := bs h
  refine cut 302 0 [(2, .bool v404)] [t1.d] ?_ ?_
  ·refine st ?_
   simp
   have r406 := zC1 fuel t1.L 4 0 (t1.L.length : Int) v404 q405
   try simp at r406
   refine zAA r406 (by simp) rfl ?_
   simp
  refine zAB <| zAJ <| zAE ?_
  obtain rfl := oi h
  simp
 refine cutA 302 0 [(1, .mptr 0 0), (3, .int .i64 t1.L.length), (8, .int .i64 t1.Op), (264, .bool (eqI t1.Op 83))] [t1.d] <| spc h rfl (fun g408 h => ?_) fun g408 h => ?_
 ·obtain ⟨l410, q411, h⟩ := bs h
  obtain ⟨q412, q413⟩ := zD6 q411
  obtain ⟨v414, q415, h⟩ := bs h
  refine cut 302 0 [(2, .bool v414)] [t1.d] ?_ ?_
  ·refine st ?_
   simp [q412, q413]
   have r416 := zAz fuel t1 l410 v414 q415
   try simp [q412, q413] at r416
   refine zAA r416 (by simp) rfl ?_
   simp [q412, q413]
  refine zAB <| zAJ <| zAE ?_
  obtain rfl := oi h
  simp
 refine cutA 302 0 [(1, .mptr 0 0), (3, .int .i64 t1.L.length), (8, .int .i64 t1.Op), (269, .bool (eqI t1.Op 84))] [t1.d] <| spc h rfl (fun g418 h => ?_) fun g418 h => ?_
 ·obtain ⟨l420, q421, h⟩ := bs h
  obtain ⟨q422, q423⟩ := zD6 q421
  obtain ⟨v424, q425, h⟩ := bs h
  refine cut 302 0 [(2, .bool v424)] [t1.d] ?_ ?_
  ·refine st ?_
   simp [q422, q423]
   have r426 := zAz fuel t1 l420 v424 q425
   try simp [q422, q423] at r426
   refine zAA r426 (by simp) rfl ?_
   simp [q422, q423]
  refine zAB <| zAJ <| zAE ?_
  obtain rfl := oi h
  simp
 refine zAM <| cutA 302 0 [(1, .mptr 0 0), (3, .int .i64 t1.L.length), (8, .int .i64 t1.Op), (274, .bool (eqI t1.Op 85))] [t1.d] <| spc h rfl (fun g428 h => ?_) fun g428 h => ?_
 ·refine zAF <| zAP <| zBE rfl (by simp [g428]) ?_
  obtain ⟨l430, q431, h⟩ := bs h
  obtain ⟨q432, q433⟩ := zD6 q431
  obtain ⟨v434, q435, h⟩ := bs h
  refine cut 302 0 [(2, .bool v434)] [t1.d] ?_ ?_
  ·refine st ?_
   simp [q432, q433]
   have r436 := zAz fuel t1 l430 v434 q435
   try simp [q432, q433] at r436
   refine zAA r436 (by simp) rfl ?_
   simp [q432, q433]
  refine zAB <| zAJ <| zAE ?_
  obtain rfl := oi h
  simp
 refine zEf 302 0 [(1, .mptr 0 0), (3, .int .i64 t1.L.length), (8, .int .i64 t1.Op), (274, .bool (eqI t1.Op 86))] [t1.d] <| spc h rfl (fun g438 h => ?_) fun g438 h => ?_
 ·have c439 := eqT g438
  obtain ⟨l440, q441, h⟩ := bs h
  obtain ⟨q442, q443⟩ := zD6 q441
  obtain ⟨v444, q445, h⟩ := bs h
  refine cut 302 0 [(2, .bool v444)] [t1.d] ?_ ?_
  ·refine st ?_
   simp [q442, q443]
   have r446 := zAz fuel t1 l440 v444 q445
   try simp [q442, q443] at r446
   refine zAA r446 (by simp) rfl ?_
   simp [q442, q443]
  refine zAB <| zAJ <| zAE ?_
  obtain rfl := oi h
  simp
 have c447 := eqF g438
 refine cutA 302 0 [(1, .mptr 0 0), (3, .int .i64 t1.L.length), (280, .bool (eqI t1.Op 87))] [t1.d] <| spc h rfl (fun g448 h => ?_) fun g448 h => ?_
 ·obtain ⟨b470, q471, h⟩ := bs h
  refine cut 302 0 [(2, .bool b470)] [t1.d] ?_ ?_
  ·rcases sp q471 with ⟨g450, q471⟩ | ⟨g450, q471⟩
   ·have c451 := leT g450
    refine zCJ 0 4 rfl rfl rfl fun f452 => ?_
    rw [List.length_map] at f452
    have q453 : Rng .i64 ((t1.L.length : Int) - 1) := by simp only [Rng, inR]; omega
    try simp at q453
    obtain ⟨x454, q455, q471⟩ := bs q471
    obtain ⟨q456, q457⟩ := idxp_ok q455
    obtain ⟨v458, q459, q471⟩ := bs q471
    rcases sp q471 with ⟨g460, q471⟩ | ⟨g460, q471⟩
    ·have q461 : Rng .i64 ((t1.L.length : Int) - 1) := by simp only [Rng, inR]; omega
     try simp at q461
     obtain ⟨l462, q463, q471⟩ := bs q471
     obtain ⟨q464, q465⟩ := zEW q463
     try simp at q464
     try simp at q465
     obtain ⟨v466, q467, q471⟩ := bs q471
     obtain rfl := oi q471
     refine st ?_
     simp [g450, q453, q456, q457, g460, q461, q464, q465]
     have r472 := zBB 7 x454 v458 q459
     try simp [g450, q453, q456, q457, g460, q461, q464, q465] at r472
     refine zAA r472 (by simp) rfl ?_
     simp [g450, q453, q456, q457, g460, q461, q464, q465]
     have r473 := zC1 fuel l462 4 0 (t1.L.length : Int) v466 q467
     try simp [g450, q453, q456, q457, g460, q461, q464, q465] at r473
     refine zAA r473 (by simp) rfl ?_
     simp [g450, q453, q456, q457, g460, q461, q464, q465]
    obtain rfl := oi q471
    refine st ?_
    simp [g450, q453, q456, q457, g460]
    have r474 := zBB 7 x454 v458 q459
    try simp [g450, q453, q456, q457, g460] at r474
    refine zAA r474 (by simp) rfl ?_
    simp [g450, q453, q456, q457, g460]
   have c468 := leF g450
   refine zCJ 0 4 rfl rfl rfl fun f469 => ?_
   rw [List.length_map] at f469
   obtain rfl := oi q471
   refine st ?_
   simp [g450]
  refine zAB <| zAJ <| zAE ?_
  obtain rfl := oi h
  simp
 refine zAF <| zCx <| zAP <| cutA 302 0 [(2, .bool false)] [t1.d] <| zAB ?_
 obtain rfl := oi h
 simp
theorem zCv (fuel : Nat) : (∀ (x1 : zJC) (c2 : Int) (w3 : zJC) (c4 : Int) (r : Bool × Int) (_ : zCS fuel x1 c2 w3 c4 = some r), Raw Tryz.prog 58 [.agg x1.d, .mptr 0 0, .mptr 1 0, .mptr 2 0] [[.fn (.func 55) [] [.mptr 3 0, .mptr 0 0]], [.int .i64 c2], w3.d, [.int .i64 c4]] (.bool r.1) [[.fn (.func 55) [] [.mptr 3 0, .mptr 0 0]], [.int .i64 c2], w3.d, [.int .i64 r.2]]) ∧ (∀ (s1 : (List zJC)) (c2 : Int) (w3 : zJC) (c4 : Int) (r : Int × Int) (_ : zBO fuel s1 c2 w3 c4 = some r), Raw Tryz.prog 35 [.sl (s1.map zJC.c), .fn (.func 58) [] [.mptr 0 0, .mptr 1 0, .mptr 2 0]] [[.fn (.func 55) [] [.mptr 3 0, .mptr 0 0]], [.int .i64 c2], w3.d, [.int .i64 c4]] (.int .i64 r.1) [[.fn (.func 55) [] [.mptr 3 0, .mptr 0 0]], [.int .i64 c2], w3.d, [.int .i64 r.2]]) ∧ (∀ (s1 : (List zJC)) (c2 : Int) (w3 : zJC) (c4 : Int) (r : Bool × Int) (_ : zBG fuel s1 c2 w3 c4 = some r), Raw Tryz.prog 18 [.sl (s1.map zJC.c), .fn (.func 58) [] [.mptr 0 0, .mptr 1 0, .mptr 2 0]] [[.fn (.func 55) [] [.mptr 3 0, .mptr 0 0]], [.int .i64 c2], w3.d, [.int .i64 c4]] (.bool r.1) [[.fn (.func 55) [] [.mptr 3 0, .mptr 0 0]], [.int .i64 c2], w3.d, [.int .i64 r.2]]) ∧ (∀ (t1 : zJC) (depth2 : Int) (inWith3 : Bool) (c4 : Int) (r : Bool × Int) (_ : zCZ fuel t1 depth2 inWith3 c4 = some r), Raw Tryz.prog 55 [.agg t1.d, .int .i64 depth2, .bool inWith3, .mptr 0 0, .mptr 1 0] [[.int .i64 c4], [.fn (.func 55) [] [.mptr 0 0, .mptr 1 0]]] (.bool r.1) [[.int .i64 r.2], [.fn (.func 55) [] [.mptr 0 0, .mptr 1 0]]]) := by
 induction fuel with
 | zero =>
  refine ⟨?_, ?_, ?_, ?_⟩
  ·intro x1 c2 w3 c4 r h; rw [zCS] at h; cases h
  ·intro s1 c2 w3 c4 r h; rw [zBO] at h; cases h
  ·intro s1 c2 w3 c4 r h; rw [zBG] at h; cases h
  ·intro t1 depth2 inWith3 c4 r h; rw [zCZ] at h; cases h
 | succ fuel ih =>
  obtain ⟨zGV, zD7, zDk, zHG⟩ := ih
  refine ⟨?_, ?_, ?_, ?_⟩
  ·intro x1 c2 w3 c4 r h
   rw [zCS] at h
   refine zA6 Tryz.func58 (by rfl) (by rfl) (by simp) (by simp) <| cutA 15 4 [(1, .mptr 0 0), (2, .mptr 1 0), (3, .mptr 2 0), (4, .mptr 4 0)] [[.fn (.func 55) [] [.mptr 3 0, .mptr 0 0]], [.int .i64 c2], w3.d, [.int .i64 c4], x1.d] ?_
   obtain ⟨n5, q6, h⟩ := bs h
   obtain ⟨q7, q8⟩ := zFi q6
   try simp at q7
   try simp at q8
   have c9 := q7; simp only [Rng, inR] at c9
   obtain ⟨v10, q11, h⟩ := bs h
   refine cut 15 4 [(5, .bool (!v10.1))] [[.fn (.func 55) [] [.mptr 3 0, .mptr 0 0]], [.int .i64 c2], w3.d, [.int .i64 v10.2], x1.d] ?_ ?_
   ·refine st ?_
    simp [q7, q8]
    have r12 := (zHG x1 n5 (eqI w3.Op 74) c4 v10 q11).frame [3, 0] [[.fn (.func 55) [] [.mptr 3 0, .mptr 0 0]], [.int .i64 c2], w3.d, [.int .i64 c4], x1.d] (by simp)
    try simp [q7, q8] at r12
    refine zAR r12 (by simp [q7, q8]) rfl ?_
    simp [q7, q8]
   refine zAB ?_
   obtain rfl := oi h
   simp
  ·intro s1 c2 w3 c4 r h
   rw [zBO] at h
   refine zA6 Tryz.func35 (by rfl) (by rfl) (by simp) (by simp) <| cutA 19 4 [(0, .sl (s1.map zJC.c)), (1, .fn (.func 58) [] [.mptr 0 0, .mptr 1 0, .mptr 2 0])] [[.fn (.func 55) [] [.mptr 3 0, .mptr 0 0]], [.int .i64 c2], w3.d, [.int .i64 c4]] <| zAM <| cutA 19 4 [(0, .sl (s1.map zJC.c)), (1, .fn (.func 58) [] [.mptr 0 0, .mptr 1 0, .mptr 2 0]), (7, .int .i64 s1.length), (8, .int .i64 0)] [[.fn (.func 55) [] [.mptr 3 0, .mptr 0 0]], [.int .i64 c2], w3.d, [.int .i64 c4]] <| zAU ?_
   obtain ⟨o8, l9, h⟩ := bs h
   refine zB2 (fun p : Nat × Int × Nat => mkS 19 4 [(0, .sl (s1.map zJC.c)), (1, .fn (.func 58) [] [.mptr 0 0, .mptr 1 0, .mptr 2 0]), (7, .int .i64 s1.length), (8, .int .i64 p.2.2)] [[.fn (.func 55) [] [.mptr 3 0, .mptr 0 0]], [.int .i64 c2], w3.d, [.int .i64 p.2.1]]) (fun p => zAi (zCS fuel) s1 c2 w3 p.1 p.2.1 p.2.2 = some o8) (fun p => p.1) (fuel, c4, 0) l9 (zBS (by simp)) ?_
   rintro ⟨k10, a5, i6⟩ l9
   dsimp only at l9 ⊢
   cases k10 with
   | zero =>
    rw [zAi] at l9; cases l9
   | succ k11 =>
    rw [zAi] at l9
    refine cutA 19 4 [(0, .sl (s1.map zJC.c)), (1, .fn (.func 58) [] [.mptr 0 0, .mptr 1 0, .mptr 2 0]), (7, .int .i64 s1.length), (8, .int .i64 i6), (9, .bool (ltI ((i6 : Nat) : Int) (s1.length : Int)))] [[.fn (.func 55) [] [.mptr 3 0, .mptr 0 0]], [.int .i64 c2], w3.d, [.int .i64 a5]] <| zAM <| spc l9 rfl (fun g12 l9 => ?_) fun g12 l9 => ?_
    ·have c13 := ltT g12
     refine zD3 0 rfl fun f14 => ?_
     rw [List.length_map] at f14
     refine zAF <| zAP <| zAM <| zAU <| cutA 19 4 [(0, .sl (s1.map zJC.c)), (1, .fn (.func 58) [] [.mptr 0 0, .mptr 1 0, .mptr 2 0]), (5, .int .i64 i6), (7, .int .i64 s1.length), (8, .int .i64 i6)] [[.fn (.func 55) [] [.mptr 3 0, .mptr 0 0]], [.int .i64 c2], w3.d, [.int .i64 a5]] ?_
     obtain ⟨x15, q16, l9⟩ := bs l9
     obtain ⟨v17, q18, l9⟩ := bs l9
     refine cut 19 4 [(0, .sl (s1.map zJC.c)), (1, .fn (.func 58) [] [.mptr 0 0, .mptr 1 0, .mptr 2 0]), (5, .int .i64 i6), (7, .int .i64 s1.length), (8, .int .i64 i6), (16, .bool v17.1)] [[.fn (.func 55) [] [.mptr 3 0, .mptr 0 0]], [.int .i64 c2], w3.d, [.int .i64 v17.2]] ?_ ?_
     ·refine st ?_
      simp [q16]
      have r21 := (zGV x15 c2 w3 a5 v17 q18).frame [0, 1, 2, 3] [[.fn (.func 55) [] [.mptr 3 0, .mptr 0 0]], [.int .i64 c2], w3.d, [.int .i64 a5]] (by simp)
      try simp [q16] at r21
      refine zAR r21 (by simp [q16]) rfl ?_
      simp [q16]
     refine spc l9 rfl (fun g19 l9 => ?_) fun g19 l9 => ?_
     ·refine cutA 19 4 [(4, .int .i64 i6)] [[.fn (.func 55) [] [.mptr 3 0, .mptr 0 0]], [.int .i64 c2], w3.d, [.int .i64 v17.2]] <| zAB <| zAJ <| zAE ?_
      replace h := retL l9 h
      refine zAE <| zAJ <| zAE ?_
      obtain rfl := oi h
      simp
     refine zAF <| zCx <| zAP ?_
     have q20 : Rng .i64 (((i6 : Nat) : Int) + 1) := by simp only [Rng, inR]; omega
     try simp at q20
     refine last 19 4 [(0, .sl (s1.map zJC.c)), (1, .fn (.func 58) [] [.mptr 0 0, .mptr 1 0, .mptr 2 0]), (7, .int .i64 s1.length), (8, .int .i64 ((i6 + 1 : Nat) : Int))] [[.fn (.func 55) [] [.mptr 3 0, .mptr 0 0]], [.int .i64 c2], w3.d, [.int .i64 v17.2]] (st (by simp [q20])) fun zz hs => ?_
     exact ⟨(k11, v17.2, i6 + 1), hs, l9, by simp⟩
    have c22 := ltF g12
    refine zD3 0 rfl fun f23 => ?_
    rw [List.length_map] at f23
    refine zBR <| zAc ?_
    rcases o8 with o8 | o7
    ·cases l9
    have q24 := Sum.inr.inj (Option.some.inj l9)
    replace h := zFp h
    have q24 := q24.symm
    refine zAc <| zBQ <| zBT (t := mkS 19 4 [] [[.fn (.func 55) [] [.mptr 3 0, .mptr 0 0]], [.int .i64 c2], w3.d, [.int .i64 o7]]) ?_ (zBS (by simp [q24]))
    refine cutA 19 4 [(4, .int .i64 (-1))] [[.fn (.func 55) [] [.mptr 3 0, .mptr 0 0]], [.int .i64 c2], w3.d, [.int .i64 o7]] <| zAB ?_
    obtain rfl := oi h
    simp
  ·intro s1 c2 w3 c4 r h
   rw [zBG] at h
   refine zA6 Tryz.func18 (by rfl) (by rfl) (by simp) (by simp) <| cutA 9 4 [(0, .sl (s1.map zJC.c)), (1, .fn (.func 58) [] [.mptr 0 0, .mptr 1 0, .mptr 2 0])] [[.fn (.func 55) [] [.mptr 3 0, .mptr 0 0]], [.int .i64 c2], w3.d, [.int .i64 c4]] ?_
   obtain ⟨v5, q6, h⟩ := bs h
   refine cut 9 4 [(4, .bool (leI 0 v5.1))] [[.fn (.func 55) [] [.mptr 3 0, .mptr 0 0]], [.int .i64 c2], w3.d, [.int .i64 v5.2]] ?_ ?_
   ·refine st ?_
    simp
    have r7 := (zD7 s1 c2 w3 c4 v5 q6).frame [0, 1, 2, 3] [[.fn (.func 55) [] [.mptr 3 0, .mptr 0 0]], [.int .i64 c2], w3.d, [.int .i64 c4]] (by simp)
    try simp at r7
    refine zAR r7 (by simp) rfl ?_
    simp
   refine zAB ?_
   obtain rfl := oi h
   simp
  ·intro t1 depth2 inWith3 c4 r h
   rw [zCZ] at h
   refine zA6 Tryz.func55 (by rfl) (by rfl) (by simp) (by simp) <| cutA 33 2 [(2, .bool inWith3), (3, .mptr 0 0), (4, .mptr 1 0), (5, .mptr 2 0), (6, .mptr 3 0)] [[.int .i64 c4], [.fn (.func 55) [] [.mptr 0 0, .mptr 1 0]], t1.d, [.int .i64 depth2]] ?_
   obtain ⟨n5, q6, h⟩ := bs h
   obtain ⟨q7, q8⟩ := zFi q6
   try simp at q7
   try simp at q8
   have c9 := q7; simp only [Rng, inR] at c9
   refine cut 33 2 [(2, .bool inWith3), (3, .mptr 0 0), (4, .mptr 1 0), (5, .mptr 2 0), (6, .mptr 3 0)] [[.int .i64 n5], [.fn (.func 55) [] [.mptr 0 0, .mptr 1 0]], t1.d, [.int .i64 depth2]] (st (by simp [q7, q8])) <| zAM ?_
   obtain ⟨b23, q24, h⟩ := bs h
   refine cut 33 2 [(4, .mptr 1 0), (5, .mptr 2 0), (6, .mptr 3 0), (27, .bool b23)] [[.int .i64 n5], [.fn (.func 55) [] [.mptr 0 0, .mptr 1 0]], t1.d, [.int .i64 depth2]] ?_ ?_
   ·rcases sp q24 with ⟨g10, q24⟩ | ⟨g10, q24⟩
    ·have c11 := ltT g10
     obtain rfl := oi q24
     refine st ?_
     simp [g10]
    have c12 := ltF g10
    rcases sp q24 with ⟨g13, q24⟩ | ⟨g13, q24⟩
    ·have c14 := ltT g13
     obtain rfl := oi q24
     refine st ?_
     simp [g10, g13]
    have c15 := ltF g13
    obtain ⟨v16, q17, q24⟩ := bs q24
    rcases sp q24 with ⟨g18, q24⟩ | ⟨g18, q24⟩
    ·have g19 := notT g18
     obtain rfl := oi q24
     refine st ?_
     simp [g10, g13, g18]
     have r29 := zHQ fuel t1 inWith3 v16 q17
     try simp [g10, g13, g18] at r29
     refine zAA r29 (by simp) rfl ?_
     simp [g10, g13, g18]
    have g20 := notF g18
    obtain ⟨v21, q22, q24⟩ := bs q24
    obtain rfl := oi q24
    refine st ?_
    simp [g10, g13, g18]
    have r30 := zHQ fuel t1 inWith3 v16 q17
    try simp [g10, g13, g18] at r30
    refine zAA r30 (by simp) rfl ?_
    simp [g10, g13, g18]
    have r31 := zIE fuel t1 v21 q22
    try simp [g10, g13, g18] at r31
    refine zAA r31 (by simp) rfl ?_
    simp [g10, g13, g18]
   refine spc h rfl (fun g25 h => ?_) fun g25 h => ?_
   ·refine cutA 33 2 [(8, .bool false)] [[.int .i64 n5], [.fn (.func 55) [] [.mptr 0 0, .mptr 1 0]], t1.d, [.int .i64 depth2]] <| zAB <| zAE ?_
    obtain rfl := oi h
    simp
   refine zAF <| zAP ?_
   obtain ⟨v26, q27, h⟩ := bs h
   refine cut 33 2 [(8, .bool (!v26.1))] [[.int .i64 v26.2], [.fn (.func 55) [] [.mptr 0 0, .mptr 1 0]], t1.d, [.int .i64 depth2]] ?_ ?_
   ·refine st ?_
    simp
    have r28 := (zDk t1.L depth2 t1 n5 v26 q27).frame [1, 3, 2, 0] [[.int .i64 n5], [.fn (.func 55) [] [.mptr 0 0, .mptr 1 0]], t1.d, [.int .i64 depth2]] (by simp)
    try simp at r28
    refine zAR r28 (by simp) rfl ?_
    simp
   refine zAB ?_
   obtain rfl := oi h
   simp
theorem zG4 (fuel : Nat) : (∀ (t1 : zJC) (depth2 : Int) (inWith3 : Bool) (c4 : Int) (r : Bool × Int) (_ : zCZ fuel t1 depth2 inWith3 c4 = some r), Raw Tryz.prog 55 [.agg t1.d, .int .i64 depth2, .bool inWith3, .mptr 0 0, .mptr 1 0] [[.int .i64 c4], [.fn (.func 55) [] [.mptr 0 0, .mptr 1 0]]] (.bool r.1) [[.int .i64 r.2], [.fn (.func 55) [] [.mptr 0 0, .mptr 1 0]]]) := (zCv fuel).2.2.2
theorem zHn (fuel : Nat) (t1 : zJC) (r : Bool) (h : zEv fuel t1 = some r) : Pure Tryz.prog 37 [.agg t1.d] (.bool r) := by
 rw [zEv] at h
 refine zAO Tryz.func37 (by rfl) (by rfl) (by simp) (by simp) (by simp) <| cutA 9 0 [(1, .mptr 0 0)] [t1.d] <| cutA 9 0 [(1, .mptr 0 0), (3, .mptr 1 0)] [t1.d, [.int .i64 0]] <| cutA 9 0 [(1, .mptr 0 0), (3, .mptr 1 0), (4, .mptr 2 0)] [t1.d, [.int .i64 0], [.nilfn]] <| cutA 9 0 [(1, .mptr 0 0), (4, .mptr 2 0)] [t1.d, [.int .i64 0], [.fn (.func 55) [] [.mptr 1 0, .mptr 2 0]]] ?_
 obtain ⟨v2, q3, h⟩ := bs h
 refine cut 9 0 [(2, .bool v2.1)] [t1.d, [.int .i64 v2.2], [.fn (.func 55) [] [.mptr 1 0, .mptr 2 0]]] ?_ ?_
 ·refine st ?_
  simp
  have r4 := (zG4 fuel t1 1 false 0 v2 q3).frame [1, 2] [t1.d, [.int .i64 0], [.fn (.func 55) [] [.mptr 1 0, .mptr 2 0]]] (by simp)
  try simp at r4
  refine zAR r4 (by simp) rfl ?_
  simp
 refine zAB ?_
 obtain rfl := oi h
 simp
theorem zGK (fuel : Nat) (cat1 : Int) (t2 : zJC) (r : Bool) (h : zDy fuel cat1 t2 = some r) : Pure Tryz.prog 21 [.int .i64 cat1, .agg t2.d] (.bool r) := by
 rw [zDy] at h
 refine zAO Tryz.func21 (by rfl) (by rfl) (by simp) (by simp) (by simp) <| cutA 12 0 [(0, .int .i64 cat1), (3, .mptr 0 0)] [t2.d] ?_
 obtain ⟨b8, q9, h⟩ := bs h
 refine cut 12 0 [(4, .bool b8)] [t2.d] ?_ ?_
 ·obtain ⟨v3, q4, q9⟩ := bs q9
  rcases sp q9 with ⟨g5, q9⟩ | ⟨g5, q9⟩
  ·obtain ⟨v6, q7, q9⟩ := bs q9
   obtain rfl := oi q9
   refine st ?_
   simp [g5]
   have r10 := zBB cat1 t2 v3 q4
   try simp [g5] at r10
   refine zAA r10 (by simp) rfl ?_
   simp [g5]
   have r11 := zHn fuel t2 v6 q7
   try simp [g5] at r11
   refine zAA r11 (by simp) rfl ?_
   simp [g5]
  obtain rfl := oi q9
  refine st ?_
  simp [g5]
  have r12 := zBB cat1 t2 v3 q4
  try simp [g5] at r12
  refine zAA r12 (by simp) rfl ?_
  simp [g5]
 refine zAB ?_
 obtain rfl := oi h
 simp
theorem zAC (l1 : (List (List UInt8))) (w2 : zI9) (r : zI9) (h : zAD l1 w2 = some r) : Raw Tryz.prog 59 [.mptr 0 0, .sl (l1.map cS)] [[.osl ⟨1, 9⟩ (w2.tokens.map cS)]] (.tup []) [[.osl ⟨1, 9⟩ (r.tokens.map cS)]] := by
 rw [zAD] at h
 refine zA6 Tryz.func59 (by rfl) (by rfl) (by simp) (by simp) ?_
 obtain ⟨l3, q4, h⟩ := bs h
 obtain ⟨q5, q6⟩ := app_ok q4
 try simp at q5
 obtain rfl := oi h
 refine st ?_
 simp [q5, q6]
theorem zBk (l1 : (List (List UInt8))) (r : (List UInt8)) (h : zBX l1 = some r) : Pure Tryz.prog 62 [.sl (l1.map cS)] (.str r) := by
 rw [zBX] at h
 refine zAO Tryz.func62 (by rfl) (by rfl) (by simp) (by simp) (by simp) <| cutA 5 0 [(0, .sl (l1.map cS))] [] ?_
 obtain ⟨v2, q3, h⟩ := bs h
 refine cut 5 0 [(2, .str v2)] [] ?_ ?_
 ·refine st ?_
  simp
  have r4 := zGL l1 [46] v2 q3
  try simp at r4
  refine zAA r4 (by simp) rfl ?_
  simp
 refine zAB ?_
 obtain rfl := oi h
 simp
theorem zFK (n1 : Int) (r : Int) (h : zAv n1 = some r) : Pure Tryz.prog 26 [.int .i64 n1] (.int .i64 r) := by
 rw [zAv] at h
 refine zAO Tryz.func26 (by rfl) (by rfl) (by simp) (by simp) (by simp) <| cutA 23 0 [(0, .int .i64 n1)] [] <| zAM <| cutA 23 0 [(3, .int .i64 n1)] [] <| zAU <| cutA 23 0 [(3, .int .i64 n1), (4, .bool (eqI n1 1))] [] <| spc h rfl (fun g2 h => ?_) fun g2 h => ?_
 ·refine cutA 23 0 [(2, .int .i64 1)] [] <| zAB <| zAJ <| zAE ?_
  obtain rfl := oi h
  simp
 refine cutA 23 0 [(3, .int .i64 n1), (6, .bool (eqI n1 2))] [] <| spc h rfl (fun g5 h => ?_) fun g5 h => ?_
 ·refine cutA 23 0 [(2, .int .i64 2)] [] <| zAB <| zAJ <| zAE ?_
  obtain rfl := oi h
  simp
 refine zAM <| cutA 23 0 [(3, .int .i64 n1), (8, .bool (eqI n1 3))] [] <| spc h rfl (fun g8 h => ?_) fun g8 h => ?_
 ·refine zAF <| zAP <| zBE rfl (by simp [g8]) <| cutA 23 0 [(2, .int .i64 3)] [] <| zAB <| zAJ <| zAE ?_
  obtain rfl := oi h
  simp
 refine cutA 23 0 [(3, .int .i64 n1), (8, .bool (eqI n1 4))] [] <| spc h rfl (fun g11 h => ?_) fun g11 h => ?_
 ·refine zAF <| zAP <| zBE rfl (by simp [g11]) <| cutA 23 0 [(2, .int .i64 3)] [] <| zAB <| zAJ <| zAE ?_
  obtain rfl := oi h
  simp
 refine zEf 23 0 [(3, .int .i64 n1), (8, .bool (eqI n1 5))] [] <| spc h rfl (fun g14 h => ?_) fun g14 h => ?_
 ·have c15 := eqT g14
  refine cutA 23 0 [(2, .int .i64 3)] [] <| zAB <| zAJ <| zAE ?_
  obtain rfl := oi h
  simp
 have c16 := eqF g14
 refine cutA 23 0 [(3, .int .i64 n1), (12, .bool (eqI n1 6))] [] <| spc h rfl (fun g17 h => ?_) fun g17 h => ?_
 ·refine cutA 23 0 [(2, .int .i64 4)] [] <| zAB <| zAJ <| zAE ?_
  obtain rfl := oi h
  simp
 refine zAM <| cutA 23 0 [(3, .int .i64 n1), (14, .bool (eqI n1 7))] [] <| spc h rfl (fun g20 h => ?_) fun g20 h => ?_
 ·refine zAF <| zAP <| zBE rfl (by simp [g20]) <| cutA 23 0 [(2, .int .i64 5)] [] <| zAB <| zAJ <| zAE ?_
  obtain rfl := oi h
  simp
 refine zEf 23 0 [(3, .int .i64 n1), (14, .bool (eqI n1 8))] [] <| spc h rfl (fun g23 h => ?_) fun g23 h => ?_
 ·have c24 := eqT g23
  refine cutA 23 0 [(2, .int .i64 5)] [] <| zAB <| zAJ <| zAE ?_
  obtain rfl := oi h
  simp
 have c25 := eqF g23
 refine zAM <| cutA 23 0 [(3, .int .i64 n1), (17, .bool (eqI n1 9))] [] <| spc h rfl (fun g26 h => ?_) fun g26 h => ?_
 ·refine zAF <| zAP <| zBE rfl (by simp [g26]) <| cutA 23 0 [(2, .int .i64 6)] [] <| zAB <| zAJ <| zAE ?_
  obtain rfl := oi h
  simp
 refine cutA 23 0 [(3, .int .i64 n1), (17, .bool (eqI n1 10))] [] <| spc h rfl (fun g29 h => ?_) fun g29 h => ?_
 ·refine zAF <| zAP <| zBE rfl (by simp [g29]) <| cutA 23 0 [(2, .int .i64 6)] [] <| zAB <| zAJ <| zAE ?_
  obtain rfl := oi h
  simp
 refine zEf 23 0 [(3, .int .i64 n1), (17, .bool (eqI n1 11))] [] <| spc h rfl (fun g32 h => ?_) fun g32 h => ?_
 ·have c33 := eqT g32
  refine cutA 23 0 [(2, .int .i64 6)] [] <| zAB <| zAJ <| zAE ?_
  obtain rfl := oi h
  simp
 have c34 := eqF g32
 refine cutA 23 0 [(21, .bool (eqI n1 12))] [] <| spc h rfl (fun g35 h => ?_) fun g35 h => ?_
 ·refine cutA 23 0 [(2, .int .i64 7)] [] <| zAB <| zAJ <| zAE ?_
  obtain rfl := oi h
  simp
 refine zAF <| zCx <| zAP <| cutA 23 0 [(2, .int .i64 0)] [] <| zAB ?_
 obtain rfl := oi h
 simp
theorem zH2 (t1 : zJC) (r : Int) (h : zCm t1 = some r) : Pure Tryz.prog 9 [.agg t1.d] (.int .i64 r) := by
 rw [zCm] at h
 refine zAO Tryz.func9 (by rfl) (by rfl) (by simp) (by simp) (by simp) <| cutA 56 0 [(1, .mptr 0 0)] [t1.d] <| zAM <| cutA 56 0 [(1, .mptr 0 0), (4, .int .i64 t1.Op)] [t1.d] <| zAU <| zAM <| cutA 56 0 [(1, .mptr 0 0), (4, .int .i64 t1.Op), (5, .bool (eqI t1.Op 4))] [t1.d] ?_
 refine spc h rfl (fun g2 h => ?_) fun g2 h => ?_
 ·refine zAF <| zAP <| zBE rfl (by simp [g2]) <| cutA 56 0 [(2, .int .i64 1)] [t1.d] <| zAB <| zAJ <| zAE ?_
  obtain rfl := oi h
  simp
 refine cutA 56 0 [(1, .mptr 0 0), (4, .int .i64 t1.Op), (5, .bool (eqI t1.Op 74))] [t1.d] <| spc h rfl (fun g5 h => ?_) fun g5 h => ?_
 ·refine zAF <| zAP <| zBE rfl (by simp [g5]) <| cutA 56 0 [(2, .int .i64 1)] [t1.d] <| zAB <| zAJ <| zAE ?_
  obtain rfl := oi h
  simp
 refine cutA 56 0 [(1, .mptr 0 0), (4, .int .i64 t1.Op), (5, .bool (eqI t1.Op 85))] [t1.d] <| spc h rfl (fun g8 h => ?_) fun g8 h => ?_
 ·refine zAF <| zAP <| zBE rfl (by simp [g8]) <| cutA 56 0 [(2, .int .i64 1)] [t1.d] <| zAB <| zAJ <| zAE ?_
  obtain rfl := oi h
  simp
 refine zEf 56 0 [(1, .mptr 0 0), (4, .int .i64 t1.Op), (5, .bool (eqI t1.Op 86))] [t1.d] <| spc h rfl (fun g11 h => ?_) fun g11 h => ?_
 ·have c12 := eqT g11
  refine cutA 56 0 [(2, .int .i64 1)] [t1.d] <| zAB <| zAJ <| zAE ?_
  obtain rfl := oi h
  simp
 have c13 := eqF g11
 refine cutA 56 0 [(1, .mptr 0 0), (4, .int .i64 t1.Op), (10, .bool (eqI t1.Op 2))] [t1.d] <| spc h rfl (fun g14 h => ?_) fun g14 h => ?_
 ·refine zAM <| cutA 56 0 [(15, .bool (ltI 0 (t1.L.length : Int)))] [t1.d] <| spc h rfl (fun g16 h => ?_) fun g16 h => ?_
  ·have c17 := ltT g16
   refine zCJ 0 4 rfl rfl rfl fun f18 => ?_
   rw [List.length_map] at f18
   refine cutA 56 0 [(2, .int .i64 2)] [t1.d] <| zAB <| zAE <| zAJ <| zAE ?_
   obtain rfl := oi h
   simp
  have c19 := ltF g16
  refine zCJ 0 4 rfl rfl rfl fun f20 => ?_
  rw [List.length_map] at f20
  refine zAF <| zAP <| cutA 56 0 [(2, .int .i64 3)] [t1.d] <| zAB <| zAJ <| zAE ?_
  obtain rfl := oi h
  simp
 refine zAM <| cutA 56 0 [(1, .mptr 0 0), (4, .int .i64 t1.Op), (16, .bool (eqI t1.Op 1))] [t1.d] <| spc h rfl (fun g22 h => ?_) fun g22 h => ?_
 ·refine zAF <| zAP <| zBE rfl (by simp [g22]) <| cutA 56 0 [(2, .int .i64 3)] [t1.d] <| zAB <| zAJ <| zAE ?_
  obtain rfl := oi h
  simp
 refine zEf 56 0 [(1, .mptr 0 0), (4, .int .i64 t1.Op), (16, .bool (eqI t1.Op 5))] [t1.d] <| spc h rfl (fun g25 h => ?_) fun g25 h => ?_
 ·have c26 := eqT g25
  refine cutA 56 0 [(2, .int .i64 3)] [t1.d] <| zAB <| zAJ <| zAE ?_
  obtain rfl := oi h
  simp
 have c27 := eqF g25
 refine cutA 56 0 [(1, .mptr 0 0), (4, .int .i64 t1.Op), (19, .bool (eqI t1.Op 14))] [t1.d] <| spc h rfl (fun g28 h => ?_) fun g28 h => ?_
 ·refine zAM <| cutA 56 0 [(24, .bool (ltI 0 (t1.L.length : Int)))] [t1.d] <| spc h rfl (fun g30 h => ?_) fun g30 h => ?_
  ·have c31 := ltT g30
   refine zCJ 0 4 rfl rfl rfl fun f32 => ?_
   rw [List.length_map] at f32
   refine cutA 56 0 [(2, .int .i64 0)] [t1.d] <| zAB <| zAE <| zAJ <| zAE ?_
   obtain rfl := oi h
   simp
  have c33 := ltF g30
  refine zCJ 0 4 rfl rfl rfl fun f34 => ?_
  rw [List.length_map] at f34
  refine zAF <| zAP <| cutA 56 0 [(2, .int .i64 1)] [t1.d] <| zAB <| zAJ <| zAE ?_
  obtain rfl := oi h
  simp
 refine zAM <| cutA 56 0 [(1, .mptr 0 0), (4, .int .i64 t1.Op), (25, .bool (eqI t1.Op 11))] [t1.d] <| spc h rfl (fun g36 h => ?_) fun g36 h => ?_
 ·refine zAF <| zAP <| zBE rfl (by simp [g36]) <| cutA 56 0 [(2, .int .i64 1)] [t1.d] <| zAB <| zAJ <| zAE ?_
  obtain rfl := oi h
  simp
 refine cutA 56 0 [(1, .mptr 0 0), (4, .int .i64 t1.Op), (25, .bool (eqI t1.Op 12))] [t1.d] <| spc h rfl (fun g39 h => ?_) fun g39 h => ?_
 ·refine zAF <| zAP <| zBE rfl (by simp [g39]) <| cutA 56 0 [(2, .int .i64 1)] [t1.d] <| zAB <| zAJ <| zAE ?_
  obtain rfl := oi h
  simp
 refine cutA 56 0 [(1, .mptr 0 0), (4, .int .i64 t1.Op), (25, .bool (eqI t1.Op 13))] [t1.d] <| spc h rfl (fun g42 h => ?_) fun g42 h => ?_
 ·refine zAF <| zAP <| zBE rfl (by simp [g42]) <| cutA 56 0 [(2, .int .i64 1)] [t1.d] <| zAB <| zAJ <| zAE ?_
  obtain rfl := oi h
  simp
 refine zEf 56 0 [(1, .mptr 0 0), (4, .int .i64 t1.Op), (25, .bool (eqI t1.Op 15))] [t1.d] <| spc h rfl (fun g45 h => ?_) fun g45 h => ?_
 ·have c46 := eqT g45
  refine cutA 56 0 [(2, .int .i64 1)] [t1.d] <| zAB <| zAJ <| zAE ?_
  obtain rfl := oi h
  simp
 have c47 := eqF g45
 refine cutA 56 0 [(1, .mptr 0 0), (4, .int .i64 t1.Op), (30, .bool (eqI t1.Op 32))] [t1.d] <| spc h rfl (fun g48 h => ?_) fun g48 h => ?_
 ·obtain ⟨v50, q51, h⟩ := bs h
  refine cut 56 0 [(2, .int .i64 v50)] [t1.d] ?_ ?_
  ·refine st ?_
   simp
   have r52 := zFK t1.N v50 q51
   try simp at r52
   refine zAA r52 (by simp) rfl ?_
   simp
  refine zAB <| zAJ <| zAE ?_
  obtain rfl := oi h
  simp
 refine cutA 56 0 [(4, .int .i64 t1.Op), (35, .bool (eqI t1.Op 26))] [t1.d] <| spc h rfl (fun g54 h => ?_) fun g54 h => ?_
 ·refine cutA 56 0 [(2, .int .i64 8)] [t1.d] <| zAB <| zAJ <| zAE ?_
  obtain rfl := oi h
  simp
 refine zAM <| cutA 56 0 [(4, .int .i64 t1.Op), (37, .bool (eqI t1.Op 21))] [t1.d] <| spc h rfl (fun g57 h => ?_) fun g57 h => ?_
 ·refine zAF <| zAP <| zBE rfl (by simp [g57]) <| cutA 56 0 [(2, .int .i64 9)] [t1.d] <| zAB <| zAJ <| zAE ?_
  obtain rfl := oi h
  simp
 refine cutA 56 0 [(4, .int .i64 t1.Op), (37, .bool (eqI t1.Op 22))] [t1.d] <| spc h rfl (fun g60 h => ?_) fun g60 h => ?_
 ·refine zAF <| zAP <| zBE rfl (by simp [g60]) <| cutA 56 0 [(2, .int .i64 9)] [t1.d] <| zAB <| zAJ <| zAE ?_
  obtain rfl := oi h
  simp
 refine cutA 56 0 [(4, .int .i64 t1.Op), (37, .bool (eqI t1.Op 23))] [t1.d] <| spc h rfl (fun g63 h => ?_) fun g63 h => ?_
 ·refine zAF <| zAP <| zBE rfl (by simp [g63]) <| cutA 56 0 [(2, .int .i64 9)] [t1.d] <| zAB <| zAJ <| zAE ?_
  obtain rfl := oi h
  simp
 refine cutA 56 0 [(4, .int .i64 t1.Op), (37, .bool (eqI t1.Op 24))] [t1.d] <| spc h rfl (fun g66 h => ?_) fun g66 h => ?_
 ·refine zAF <| zAP <| zBE rfl (by simp [g66]) <| cutA 56 0 [(2, .int .i64 9)] [t1.d] <| zAB <| zAJ <| zAE ?_
  obtain rfl := oi h
  simp
 refine cutA 56 0 [(4, .int .i64 t1.Op), (37, .bool (eqI t1.Op 27))] [t1.d] <| spc h rfl (fun g69 h => ?_) fun g69 h => ?_
 ·refine zAF <| zAP <| zBE rfl (by simp [g69]) <| cutA 56 0 [(2, .int .i64 9)] [t1.d] <| zAB <| zAJ <| zAE ?_
  obtain rfl := oi h
  simp
 refine cutA 56 0 [(4, .int .i64 t1.Op), (37, .bool (eqI t1.Op 29))] [t1.d] <| spc h rfl (fun g72 h => ?_) fun g72 h => ?_
 ·refine zAF <| zAP <| zBE rfl (by simp [g72]) <| cutA 56 0 [(2, .int .i64 9)] [t1.d] <| zAB <| zAJ <| zAE ?_
  obtain rfl := oi h
  simp
 refine cutA 56 0 [(4, .int .i64 t1.Op), (37, .bool (eqI t1.Op 31))] [t1.d] <| spc h rfl (fun g75 h => ?_) fun g75 h => ?_
 ·refine zAF <| zAP <| zBE rfl (by simp [g75]) <| cutA 56 0 [(2, .int .i64 9)] [t1.d] <| zAB <| zAJ <| zAE ?_
  obtain rfl := oi h
  simp
 refine cutA 56 0 [(4, .int .i64 t1.Op), (37, .bool (eqI t1.Op 33))] [t1.d] <| spc h rfl (fun g78 h => ?_) fun g78 h => ?_
 ·refine zAF <| zAP <| zBE rfl (by simp [g78]) <| cutA 56 0 [(2, .int .i64 9)] [t1.d] <| zAB <| zAJ <| zAE ?_
  obtain rfl := oi h
  simp
 refine zEf 56 0 [(4, .int .i64 t1.Op), (37, .bool (eqI t1.Op 34))] [t1.d] <| spc h rfl (fun g81 h => ?_) fun g81 h => ?_
 ·have c82 := eqT g81
  refine cutA 56 0 [(2, .int .i64 9)] [t1.d] <| zAB <| zAJ <| zAE ?_
  obtain rfl := oi h
  simp
 have c83 := eqF g81
 refine zAM <| cutA 56 0 [(4, .int .i64 t1.Op), (47, .bool (eqI t1.Op 71))] [t1.d] <| spc h rfl (fun g84 h => ?_) fun g84 h => ?_
 ·refine zAF <| zAP <| zBE rfl (by simp [g84]) <| cutA 56 0 [(2, .int .i64 2)] [t1.d] <| zAB <| zAJ <| zAE ?_
  obtain rfl := oi h
  simp
 refine cutA 56 0 [(4, .int .i64 t1.Op), (47, .bool (eqI t1.Op 72))] [t1.d] <| spc h rfl (fun g87 h => ?_) fun g87 h => ?_
 ·refine zAF <| zAP <| zBE rfl (by simp [g87]) <| cutA 56 0 [(2, .int .i64 2)] [t1.d] <| zAB <| zAJ <| zAE ?_
  obtain rfl := oi h
  simp
 refine zEf 56 0 [(4, .int .i64 t1.Op), (47, .bool (eqI t1.Op 84))] [t1.d] <| spc h rfl (fun g90 h => ?_) fun g90 h => ?_
 ·have c91 := eqT g90
  refine cutA 56 0 [(2, .int .i64 2)] [t1.d] <| zAB <| zAJ <| zAE ?_
  obtain rfl := oi h
  simp
 have c92 := eqF g90
 refine zAM <| cutA 56 0 [(4, .int .i64 t1.Op), (51, .bool (eqI t1.Op 81))] [t1.d] <| spc h rfl (fun g93 h => ?_) fun g93 h => ?_
 ·refine zAF <| zAP <| zBE rfl (by simp [g93]) <| cutA 56 0 [(2, .int .i64 3)] [t1.d] <| zAB <| zAJ <| zAE ?_
  obtain rfl := oi h
  simp
 refine cutA 56 0 [(4, .int .i64 t1.Op), (51, .bool (eqI t1.Op 82))] [t1.d] <| spc h rfl (fun g96 h => ?_) fun g96 h => ?_
 ·refine zAF <| zAP <| zBE rfl (by simp [g96]) <| cutA 56 0 [(2, .int .i64 3)] [t1.d] <| zAB <| zAJ <| zAE ?_
  obtain rfl := oi h
  simp
 refine cutA 56 0 [(4, .int .i64 t1.Op), (51, .bool (eqI t1.Op 87))] [t1.d] <| spc h rfl (fun g99 h => ?_) fun g99 h => ?_
 ·refine zAF <| zAP <| zBE rfl (by simp [g99]) <| cutA 56 0 [(2, .int .i64 3)] [t1.d] <| zAB <| zAJ <| zAE ?_
  obtain rfl := oi h
  simp
 refine zEf 56 0 [(51, .bool (eqI t1.Op 88))] [t1.d] <| spc h rfl (fun g102 h => ?_) fun g102 h => ?_
 ·have c103 := eqT g102
  refine cutA 56 0 [(2, .int .i64 3)] [t1.d] <| zAB <| zAJ <| zAE ?_
  obtain rfl := oi h
  simp
 have c104 := eqF g102
 refine zAF <| zCx <| zAP <| cutA 56 0 [(2, .int .i64 0)] [t1.d] <| zAB ?_
 obtain rfl := oi h
 simp
theorem zEd (n1 : Int) (w2 : zI9) (r : zI9) (h : zBe n1 w2 = some r) : Raw Tryz.prog 63 [.mptr 0 0, .int .i64 n1] [[.osl ⟨1, 9⟩ (w2.tokens.map cS)]] (.tup []) [[.osl ⟨1, 9⟩ (r.tokens.map cS)]] := by
 rw [zBe] at h
 refine zA6 Tryz.func63 (by rfl) (by rfl) (by simp) (by simp) <| zAM <| cutA 16 1 [(0, .mptr 0 0), (1, .int .i64 n1), (5, .bool (ltI n1 0))] [[.osl ⟨1, 9⟩ (w2.tokens.map cS)]] <| spc h rfl (fun g3 h => ?_) fun g3 h => ?_
 ·have c4 := ltT g3
  obtain ⟨v5, q6, h⟩ := bs h
  refine cut 16 1 [(0, .mptr 0 0), (1, .int .i64 n1)] [[.osl ⟨1, 9⟩ (v5.tokens.map cS)]] ?_ ?_
  ·refine st ?_
   simp
   have r17 := (zAC [[126]] w2 v5 q6).frame [0] [[.osl ⟨1, 9⟩ (w2.tokens.map cS)]] (by simp)
   try simp at r17
   refine zAR r17 (by simp) rfl ?_
   simp
  obtain ⟨n7, q8, h⟩ := bs h
  obtain ⟨q9, q10⟩ := zFi q8
  try simp at q9
  try simp at q10
  refine last 16 1 [(0, .mptr 0 0), (1, .int .i64 n7)] [[.osl ⟨1, 9⟩ (v5.tokens.map cS)]] (st (by simp [q9, q10])) fun zz hs => ?_
  refine zBT ?_ hs
  obtain ⟨v11, q12, h⟩ := bs h
  obtain ⟨v13, q14, h⟩ := bs h
  obtain rfl := oi h
  refine st ?_
  simp
  have r15 := zGM n7 v11 q12
  try simp at r15
  refine zAA r15 (by simp) rfl ?_
  simp
  have r16 := (zAC [v11] v5 v13 q14).frame [0] [[.osl ⟨1, 9⟩ (v5.tokens.map cS)]] (by simp)
  try simp at r16
  refine zAR r16 (by simp) rfl ?_
  simp
 have c18 := ltF g3
 refine zAF <| zAP ?_
 obtain ⟨v19, q20, h⟩ := bs h
 obtain ⟨v21, q22, h⟩ := bs h
 obtain rfl := oi h
 refine st ?_
 simp
 have r23 := zGM n1 v19 q20
 try simp at r23
 refine zAA r23 (by simp) rfl ?_
 simp
 have r24 := (zAC [v19] w2 v21 q22).frame [0] [[.osl ⟨1, 9⟩ (w2.tokens.map cS)]] (by simp)
 try simp at r24
 refine zAR r24 (by simp) rfl ?_
 simp
theorem zBg (c1 : UInt8) (b2 : (List UInt8)) (r : (List UInt8)) (h : zA0 c1 b2 = some r) : Raw Tryz.prog 66 [.mptr 0 0, .int .u8 c1.toNat] [[.baddr 66 0, .osl ⟨1, 5⟩ (b2.map cU)]] (.nilif) [[.baddr 66 0, .osl ⟨1, 5⟩ (r.map cU)]] := by
 rw [zA0] at h
 refine zA6 Tryz.func66 (by rfl) (by rfl) (by simp) (by simp) <| cutA 17 1 [(0, .mptr 0 0), (1, .int .u8 c1.toNat)] [[.baddr 66 0, .osl ⟨1, 5⟩ (b2.map cU)]] ?_
 obtain ⟨v3, q4, h⟩ := bs h
 refine cut 17 1 [(0, .mptr 0 0), (1, .int .u8 c1.toNat)] [[.baddr 66 0, .osl ⟨1, 5⟩ (b2.map cU)]] ?_ ?_
 ·refine st ?_
  simp
  have r9 := (zDl b2 v3 q4).frame [0] [[.baddr 66 0, .osl ⟨1, 5⟩ (b2.map cU)]] (by simp)
  try simp at r9
  refine zAR r9 (by simp) rfl ?_
  simp
 obtain ⟨l5, q6, h⟩ := bs h
 obtain ⟨q7, q8⟩ := app_ok q6
 try simp at q7
 refine cut 17 1 [] [[.baddr 66 0, .osl ⟨1, 5⟩ (l5.map cU)]] (st (by simp [q7, q8])) <| cutA 17 1 [(4, .nilif)] [[.baddr 66 0, .osl ⟨1, 5⟩ (l5.map cU)]] <| zAB ?_
 obtain rfl := oi h
 simp
theorem zCN (s1 : (List UInt8)) (b2 : (List UInt8)) (r : Int × (List UInt8)) (h : zBA s1 b2 = some r) : Raw Tryz.prog 48 [.mptr 0 0, .str s1] [[.baddr 66 0, .osl ⟨1, 5⟩ (b2.map cU)]] (.tup [.int .i64 r.1, .nilif]) [[.baddr 66 0, .osl ⟨1, 5⟩ (r.2.map cU)]] := by
 rw [zBA] at h
 refine zA6 Tryz.func48 (by rfl) (by rfl) (by simp) (by simp) <| cutA 19 1 [(0, .mptr 0 0), (1, .str s1)] [[.baddr 66 0, .osl ⟨1, 5⟩ (b2.map cU)]] ?_
 obtain ⟨v3, q4, h⟩ := bs h
 refine cut 19 1 [(0, .mptr 0 0), (1, .str s1)] [[.baddr 66 0, .osl ⟨1, 5⟩ (b2.map cU)]] ?_ ?_
 ·refine st ?_
  simp
  have r9 := (zDl b2 v3 q4).frame [0] [[.baddr 66 0, .osl ⟨1, 5⟩ (b2.map cU)]] (by simp)
  try simp at r9
  refine zAR r9 (by simp) rfl ?_
  simp
 obtain ⟨l5, q6, h⟩ := bs h
 obtain ⟨q7, q8⟩ := app_ok q6
 try simp at q7
 refine cut 19 1 [(1, .str s1)] [[.baddr 66 0, .osl ⟨1, 5⟩ (l5.map cU)]] (st (by simp [q7, q8])) <| cutA 19 1 [(4, .int .i64 s1.length), (5, .nilif)] [[.baddr 66 0, .osl ⟨1, 5⟩ (l5.map cU)]] <| zAB ?_
 obtain rfl := oi h
 simp
theorem zH6 (c1 : UInt8) (r : Bool) (h : zEF c1 = some r) : Pure Tryz.prog 96 [.int .u8 c1.toNat] (.bool r) := by
 rw [zEF] at h
 refine zAO Tryz.func96 (by rfl) (by rfl) (by simp) (by simp) (by simp) <| cutA 9 0 [(0, .int .u8 c1.toNat)] [] <| cut 9 0 [(2, .bool ((leI 32 (c1.toNat : Int)) && (leI (c1.toNat : Int) 126)))] [] ?_ ?_
 ·rcases tf (leI 32 (c1.toNat : Int)) with g2 | g2
  ·have c3 := leT g2
   refine st ?_
   simp [g2]
  have c4 := leF g2
  refine st ?_
  simp [g2]
 refine zAB ?_
 obtain rfl := oi h
 simp
theorem zIu (fuel : Nat) (s1 : (List UInt8)) (r : (List UInt8) × Int) (h : zER fuel s1 = some r) : Pure Tryz.prog 64 [.str s1] (.tup [.str r.1, .int .i64 r.2]) := by
 rw [zER] at h
 refine zAO Tryz.func64 (by rfl) (by rfl) (by simp) (by simp) (by simp) <| cutA 42 0 [(0, .str s1)] [] <| zAM <| cutA 42 0 [(0, .str s1), (9, .bool (ltI 16384 (s1.length : Int)))] [] <| spc h rfl (fun g2 h => ?_) fun g2 h => ?_
 ·have c3 := ltT g2
  refine zGX 0 rfl fun f4 => ?_
  refine cutA 42 0 [(2, .str ([] : List UInt8)), (3, .int .i64 5)] [] <| zAB <| zAE ?_
  obtain rfl := oi h
  simp
 have c5 := ltF g2
 refine zGX 0 rfl fun f6 => ?_
 refine zAF <| zAP <| cutA 42 0 [(0, .str s1), (4, .mptr 0 0)] [[.baddr 66 0, .osl ⟨1, 5⟩ (([] : List UInt8).map cU)]] ?_
 obtain ⟨v7, q8, h⟩ := bs h
 refine cut 42 0 [(0, .str s1), (4, .mptr 0 0)] [[.baddr 66 0, .osl ⟨1, 5⟩ (v7.map cU)]] ?_ ?_
 ·refine st ?_
  simp
  have r60 := (zBg (34 : UInt8) ([] : List UInt8) v7 q8).frame [0] [[.baddr 66 0, .osl ⟨1, 5⟩ (([] : List UInt8).map cU)]] (by simp)
  try simp at r60
  refine zAR r60 (by simp) rfl ?_
  simp
 refine zAM <| cutA 42 0 [(0, .str s1), (4, .mptr 0 0), (12, .int .i64 s1.length), (13, .int .i64 0)] [[.baddr 66 0, .osl ⟨1, 5⟩ (v7.map cU)]] <| zAU ?_
 obtain ⟨o12, l13, h⟩ := bs h
 refine zB2 (fun p : Nat × (List UInt8) × Nat => mkS 42 0 [(0, .str s1), (4, .mptr 0 0), (12, .int .i64 s1.length), (13, .int .i64 p.2.2)] [[.baddr 66 0, .osl ⟨1, 5⟩ (p.2.1.map cU)]]) (fun p => zCL s1 p.1 p.2.1 p.2.2 = some o12) (fun p => p.1) (fuel, v7, 0) l13 (zBS (by simp)) ?_
 rintro ⟨k14, buf9, i10⟩ l13
 dsimp only at l13 ⊢
 cases k14 with
 | zero =>
  rw [zCL] at l13; cases l13
 | succ k15 =>
  rw [zCL] at l13
  refine cutA 42 0 [(0, .str s1), (4, .mptr 0 0), (12, .int .i64 s1.length), (13, .int .i64 i10), (14, .bool (ltI ((i10 : Nat) : Int) (s1.length : Int)))] [[.baddr 66 0, .osl ⟨1, 5⟩ (buf9.map cU)]] <| zAM <| spc l13 rfl (fun g16 l13 => ?_) fun g16 l13 => ?_
  ·have c17 := ltT g16
   refine zAF <| zAP <| zAM <| zAU <| cutA 42 0 [(0, .str s1), (4, .mptr 0 0), (5, .int .i64 i10), (12, .int .i64 s1.length), (13, .int .i64 i10)] [[.baddr 66 0, .osl ⟨1, 5⟩ (buf9.map cU)]] ?_
   obtain ⟨c18, q19, l13⟩ := bs l13
   refine cut 42 0 [(0, .str s1), (4, .mptr 0 0), (6, .int .u8 c18.toNat), (12, .int .i64 s1.length), (13, .int .i64 i10)] [[.baddr 66 0, .osl ⟨1, 5⟩ (buf9.map cU)]] (st (by simp [q19])) <| zAU <| cutA 42 0 [(0, .str s1), (4, .mptr 0 0), (6, .int .u8 c18.toNat), (12, .int .i64 s1.length), (13, .int .i64 i10), (21, .bool (eqI (c18.toNat : Int) 10))] [[.baddr 66 0, .osl ⟨1, 5⟩ (buf9.map cU)]] <| spc l13 rfl (fun g20 l13 => ?_) fun g20 l13 => ?_
   ·have c21 := eqT g20
    obtain ⟨v22, q23, l13⟩ := bs l13
    refine last 42 0 [(0, .str s1), (4, .mptr 0 0), (12, .int .i64 s1.length), (13, .int .i64 i10)] [[.baddr 66 0, .osl ⟨1, 5⟩ (v22.2.map cU)]] ?_ fun zz hs => ?_
    ·refine st ?_
     simp
     have r25 := (zCN [92, 110] buf9 v22 q23).frame [0] [[.baddr 66 0, .osl ⟨1, 5⟩ (buf9.map cU)]] (by simp)
     try simp at r25
     refine zAR r25 (by simp) rfl ?_
     simp
    refine zCx <| zCx <| zBT ?_ hs
    have q24 : Rng .i64 (((i10 : Nat) : Int) + 1) := by simp only [Rng, inR]; omega
    try simp at q24
    refine last 42 0 [(0, .str s1), (4, .mptr 0 0), (12, .int .i64 s1.length), (13, .int .i64 ((i10 + 1 : Nat) : Int))] [[.baddr 66 0, .osl ⟨1, 5⟩ (v22.2.map cU)]] (st (by simp [q24])) fun zz hs => ?_
    exact ⟨(k15, v22.2, i10 + 1), hs, l13, by simp⟩
   have c26 := eqF g20
   obtain ⟨v27, q28, l13⟩ := bs l13
   refine cut 42 0 [(0, .str s1), (4, .mptr 0 0), (6, .int .u8 c18.toNat), (12, .int .i64 s1.length), (13, .int .i64 i10), (25, .bool (!v27))] [[.baddr 66 0, .osl ⟨1, 5⟩ (buf9.map cU)]] ?_ ?_
   ·refine st ?_
    simp
    have r51 := zH6 c18 v27 q28
    try simp at r51
    refine zAA r51 (by simp) rfl ?_
    simp
   refine spc l13 rfl (fun g29 l13 => ?_) fun g29 l13 => ?_
   ·have g30 := notT g29
    refine cutA 42 0 [(2, .str ([] : List UInt8)), (3, .int .i64 3)] [[.baddr 66 0, .osl ⟨1, 5⟩ (buf9.map cU)]] <| zAB <| zAJ <| zAJ <| zAE ?_
    replace h := retL l13 h
    refine zAE <| zAJ <| zAE ?_
    obtain rfl := oi h
    simp
   have g31 := notF g29
   refine cut 42 0 [(0, .str s1), (4, .mptr 0 0), (6, .int .u8 c18.toNat), (12, .int .i64 s1.length), (13, .int .i64 i10), (29, .bool ((eqI (c18.toNat : Int) 34) || (eqI (c18.toNat : Int) 92)))] [[.baddr 66 0, .osl ⟨1, 5⟩ (buf9.map cU)]] ?_ ?_
   ·rcases tf (eqI (c18.toNat : Int) 34) with g32 | g32
    ·have c33 := eqT g32
     refine st ?_
     simp [g32]
    have c34 := eqF g32
    refine st ?_
    simp [g32]
   rcases sp l13 with ⟨g35, l13⟩ | ⟨g35, l13⟩
   ·refine zBE rfl g35 ?_
    obtain ⟨v36, q37, l13⟩ := bs l13
    refine cut 42 0 [(0, .str s1), (4, .mptr 0 0), (6, .int .u8 c18.toNat), (12, .int .i64 s1.length), (13, .int .i64 i10)] [[.baddr 66 0, .osl ⟨1, 5⟩ (v36.map cU)]] ?_ ?_
    ·refine st ?_
     simp
     have r42 := (zBg (92 : UInt8) buf9 v36 q37).frame [0] [[.baddr 66 0, .osl ⟨1, 5⟩ (buf9.map cU)]] (by simp)
     try simp at r42
     refine zAR r42 (by simp) rfl ?_
     simp
    obtain ⟨v38, q39, l13⟩ := bs l13
    refine last 42 0 [(0, .str s1), (4, .mptr 0 0), (12, .int .i64 s1.length), (13, .int .i64 i10)] [[.baddr 66 0, .osl ⟨1, 5⟩ (v38.map cU)]] ?_ fun zz hs => ?_
    ·refine st ?_
     simp
     have r41 := (zBg c18 v36 v38 q39).frame [0] [[.baddr 66 0, .osl ⟨1, 5⟩ (v36.map cU)]] (by simp)
     try simp at r41
     refine zAR r41 (by simp) rfl ?_
     simp
    refine zCx <| zCx <| zBT ?_ hs
    have q40 : Rng .i64 (((i10 : Nat) : Int) + 1) := by simp only [Rng, inR]; omega
    try simp at q40
    refine last 42 0 [(0, .str s1), (4, .mptr 0 0), (12, .int .i64 s1.length), (13, .int .i64 ((i10 + 1 : Nat) : Int))] [[.baddr 66 0, .osl ⟨1, 5⟩ (v38.map cU)]] (st (by simp [q40])) fun zz hs => ?_
    exact ⟨(k15, v38, i10 + 1), hs, l13, by simp⟩
   obtain ⟨g43, g44⟩ := orF g35
   have c45 := eqF g43
   have c46 := eqF g44
   refine zGH rfl g35 ?_
   obtain ⟨v47, q48, l13⟩ := bs l13
   refine last 42 0 [(0, .str s1), (4, .mptr 0 0), (12, .int .i64 s1.length), (13, .int .i64 i10)] [[.baddr 66 0, .osl ⟨1, 5⟩ (v47.map cU)]] ?_ fun zz hs => ?_
   ·refine st ?_
    simp
    have r50 := (zBg c18 buf9 v47 q48).frame [0] [[.baddr 66 0, .osl ⟨1, 5⟩ (buf9.map cU)]] (by simp)
    try simp at r50
    refine zAR r50 (by simp) rfl ?_
    simp
   refine zCx <| zCx <| zBT ?_ hs
   have q49 : Rng .i64 (((i10 : Nat) : Int) + 1) := by simp only [Rng, inR]; omega
   try simp at q49
   refine last 42 0 [(0, .str s1), (4, .mptr 0 0), (12, .int .i64 s1.length), (13, .int .i64 ((i10 + 1 : Nat) : Int))] [[.baddr 66 0, .osl ⟨1, 5⟩ (v47.map cU)]] (st (by simp [q49])) fun zz hs => ?_
   exact ⟨(k15, v47, i10 + 1), hs, l13, by simp⟩
  have c52 := ltF g16
  refine zBR <| zAc ?_
  rcases o12 with o12 | o11
  ·cases l13
  have q53 := Sum.inr.inj (Option.some.inj l13)
  replace h := zFp h
  have q53 := q53.symm
  refine zAc <| zBQ <| zBT (t := mkS 42 0 [(4, .mptr 0 0)] [[.baddr 66 0, .osl ⟨1, 5⟩ (o11.map cU)]]) ?_ (zBS (by simp [q53]))
  obtain ⟨v54, q55, h⟩ := bs h
  refine cut 42 0 [(4, .mptr 0 0)] [[.baddr 66 0, .osl ⟨1, 5⟩ (v54.map cU)]] ?_ ?_
  ·refine st ?_
   simp
   have r59 := (zBg (34 : UInt8) o11 v54 q55).frame [0] [[.baddr 66 0, .osl ⟨1, 5⟩ (o11.map cU)]] (by simp)
   try simp at r59
   refine zAR r59 (by simp) rfl ?_
   simp
  obtain ⟨v56, q57, h⟩ := bs h
  refine cut 42 0 [(2, .str v56), (3, .int .i64 0)] [[.baddr 66 0, .osl ⟨1, 5⟩ (v54.map cU)]] ?_ ?_
  ·refine st ?_
   simp
   have r58 := (zDV v54 v56 q57).frame [0] [[.baddr 66 0, .osl ⟨1, 5⟩ (v54.map cU)]] (by simp)
   try simp at r58
   refine zAR r58 (by simp) rfl ?_
   simp
  refine zAB ?_
  obtain rfl := oi h
  simp
theorem zDP (n1 : Int) (r : (List UInt8)) (h : zBD n1 = some r) : Pure Tryz.prog 115 [.int .i64 n1] (.str r) := by
 rw [zBD] at h
 refine zAO Tryz.func115 (by rfl) (by rfl) (by simp) (by simp) (by simp) <| cutA 6 0 [(0, .int .i64 n1)] [] ?_
 obtain ⟨x3, q4, h⟩ := bs h
 obtain ⟨q5, q6⟩ := idx_ok q4
 have q2 := litIdx AV.str q6
 simp only [List.map_cons, List.map_nil] at q2
 refine cut 6 0 [(2, .str x3)] [] (st (by simp [q5, q6, q2])) <| zAB ?_
 obtain rfl := oi h
 simp
theorem zC2 (fuel : Nat) (l1 : (List (List UInt8))) (w2 : zI9) (r : zI9) (h : zBJ fuel l1 w2 = some r) : Raw Tryz.prog 116 [.mptr 0 0, .sl (l1.map cS)] [[.osl ⟨1, 9⟩ (w2.tokens.map cS)]] (.tup []) [[.osl ⟨1, 9⟩ (r.tokens.map cS)]] := by
 rw [zBJ] at h
 refine zA6 Tryz.func116 (by rfl) (by rfl) (by simp) (by simp) <| cutA 41 1 [(0, .mptr 0 0), (1, .sl (l1.map cS)), (7, .int .i64 l1.length)] [[.osl ⟨1, 9⟩ (w2.tokens.map cS)]] <| zAU <| cutA 41 1 [(0, .mptr 0 0), (1, .sl (l1.map cS)), (7, .int .i64 l1.length), (31, .bool (eqI (l1.length : Int) 0))] [[.osl ⟨1, 9⟩ (w2.tokens.map cS)]] <| spc h rfl (fun g3 h => ?_) fun g3 h => ?_
 ·have c4 := eqT g3
  refine zAF <| zCx ?_
  obtain rfl := oi h
  simp
 have c5 := eqF g3
 refine cutA 41 1 [(0, .mptr 0 0), (1, .sl (l1.map cS)), (33, .bool (eqI (l1.length : Int) 1))] [[.osl ⟨1, 9⟩ (w2.tokens.map cS)]] <| spc h rfl (fun g6 h => ?_) fun g6 h => ?_
 ·have c7 := eqT g6
  obtain ⟨x8, q9, h⟩ := bs h
  obtain ⟨v10, q11, h⟩ := bs h
  obtain rfl := oi h
  refine st ?_
  simp [q9]
  have r12 := (zAC [x8] w2 v10 q11).frame [0] [[.osl ⟨1, 9⟩ (w2.tokens.map cS)]] (by simp)
  try simp [q9] at r12
  refine zAR r12 (by simp [q9]) rfl ?_
  simp [q9]
 have c13 := eqF g6
 obtain ⟨v14, q15, h⟩ := bs h
 refine cut 41 1 [(0, .mptr 0 0), (1, .sl (l1.map cS))] [[.osl ⟨1, 9⟩ (v14.tokens.map cS)]] ?_ ?_
 ·refine st ?_
  simp
  have r47 := (zAC [[40]] w2 v14 q15).frame [0] [[.osl ⟨1, 9⟩ (w2.tokens.map cS)]] (by simp)
  try simp at r47
  refine zAR r47 (by simp) rfl ?_
  simp
 refine zAM <| cutA 41 1 [(0, .mptr 0 0), (11, .sl (l1.map cS)), (12, .int .i64 l1.length), (13, .int .i64 0)] [[.osl ⟨1, 9⟩ (v14.tokens.map cS)]] <| zAU ?_
 obtain ⟨o18, l19, h⟩ := bs h
 refine zB2 (fun p : Nat × (List (List UInt8)) × Nat => mkS 41 1 [(0, .mptr 0 0), (11, .sl (l1.map cS)), (12, .int .i64 l1.length), (13, .int .i64 p.2.2)] [[.osl ⟨1, 9⟩ (p.2.1.map cS)]]) (fun p => zA3 l1 p.1 p.2.1 p.2.2 = some o18) (fun p => p.1) (fuel, v14.tokens, 0) l19 (zBS (by simp)) ?_
 rintro ⟨k20, tokens16, i17⟩ l19
 dsimp only at l19 ⊢
 cases k20 with
 | zero =>
  rw [zA3] at l19; cases l19
 | succ k21 =>
  rw [zA3] at l19
  refine cutA 41 1 [(0, .mptr 0 0), (11, .sl (l1.map cS)), (12, .int .i64 l1.length), (13, .int .i64 i17), (14, .bool (ltI ((i17 : Nat) : Int) (l1.length : Int)))] [[.osl ⟨1, 9⟩ (tokens16.map cS)]] <| zAM <| spc l19 rfl (fun g22 l19 => ?_) fun g22 l19 => ?_
  ·have c23 := ltT g22
   refine zD3 11 rfl fun f24 => ?_
   rw [List.length_map] at f24
   refine zAF <| zAP <| zAM <| zAU ?_
   obtain ⟨x25, q26, l19⟩ := bs l19
   refine cut 41 1 [(0, .mptr 0 0), (4, .int .i64 i17), (5, .str x25), (11, .sl (l1.map cS)), (12, .int .i64 l1.length), (13, .int .i64 i17)] [[.osl ⟨1, 9⟩ (tokens16.map cS)]] (st (by simp [q26])) <| zAM <| cutA 41 1 [(0, .mptr 0 0), (5, .str x25), (11, .sl (l1.map cS)), (12, .int .i64 l1.length), (13, .int .i64 i17), (19, .bool (ltI 0 ((i17 : Nat) : Int)))] [[.osl ⟨1, 9⟩ (tokens16.map cS)]] <| spc l19 rfl (fun g27 l19 => ?_) fun g27 l19 => ?_
   ·have c28 := ltT g27
    obtain ⟨v29, q30, l19⟩ := bs l19
    refine last 41 1 [(0, .mptr 0 0), (5, .str x25), (11, .sl (l1.map cS)), (12, .int .i64 l1.length), (13, .int .i64 i17)] [[.osl ⟨1, 9⟩ (v29.tokens.map cS)]] ?_ fun zz hs => ?_
    ·refine st ?_
     simp
     have r35 := (zAC [[44]] (zI9.mk tokens16) v29 q30).frame [0] [[.osl ⟨1, 9⟩ (tokens16.map cS)]] (by simp)
     try simp at r35
     refine zAR r35 (by simp) rfl ?_
     simp
    refine zBT ?_ hs
    obtain ⟨v31, q32, l19⟩ := bs l19
    refine last 41 1 [(0, .mptr 0 0), (11, .sl (l1.map cS)), (12, .int .i64 l1.length), (13, .int .i64 i17)] [[.osl ⟨1, 9⟩ (v31.tokens.map cS)]] ?_ fun zz hs => ?_
    ·refine st ?_
     simp
     have r34 := (zAC [x25] v29 v31 q32).frame [0] [[.osl ⟨1, 9⟩ (v29.tokens.map cS)]] (by simp)
     try simp at r34
     refine zAR r34 (by simp) rfl ?_
     simp
    refine zCx <| zBT ?_ hs
    have q33 : Rng .i64 (((i17 : Nat) : Int) + 1) := by simp only [Rng, inR]; omega
    try simp at q33
    refine last 41 1 [(0, .mptr 0 0), (11, .sl (l1.map cS)), (12, .int .i64 l1.length), (13, .int .i64 ((i17 + 1 : Nat) : Int))] [[.osl ⟨1, 9⟩ (v31.tokens.map cS)]] (st (by simp [q33])) fun zz hs => ?_
    exact ⟨(k21, v31.tokens, i17 + 1), hs, l19, by simp⟩
   have c36 := ltF g27
   refine zAF <| zAP ?_
   obtain ⟨v37, q38, l19⟩ := bs l19
   refine last 41 1 [(0, .mptr 0 0), (11, .sl (l1.map cS)), (12, .int .i64 l1.length), (13, .int .i64 i17)] [[.osl ⟨1, 9⟩ (v37.tokens.map cS)]] ?_ fun zz hs => ?_
   ·refine st ?_
    simp
    have r40 := (zAC [x25] (zI9.mk tokens16) v37 q38).frame [0] [[.osl ⟨1, 9⟩ (tokens16.map cS)]] (by simp)
    try simp at r40
    refine zAR r40 (by simp) rfl ?_
    simp
   refine zCx <| zBT ?_ hs
   have q39 : Rng .i64 (((i17 : Nat) : Int) + 1) := by simp only [Rng, inR]; omega
   try simp at q39
   refine last 41 1 [(0, .mptr 0 0), (11, .sl (l1.map cS)), (12, .int .i64 l1.length), (13, .int .i64 ((i17 + 1 : Nat) : Int))] [[.osl ⟨1, 9⟩ (v37.tokens.map cS)]] (st (by simp [q39])) fun zz hs => ?_
   exact ⟨(k21, v37.tokens, i17 + 1), hs, l19, by simp⟩
  have c41 := ltF g22
  refine zD3 11 rfl fun f42 => ?_
  rw [List.length_map] at f42
  refine zBR <| zAc ?_
  have q43 := Option.some.inj l19
  have q43 := q43.symm
  refine zAc <| zBQ <| zBT (t := mkS 41 1 [(0, .mptr 0 0)] [[.osl ⟨1, 9⟩ (o18.map cS)]]) ?_ (zBS (by simp [q43]))
  obtain ⟨v44, q45, h⟩ := bs h
  obtain rfl := oi h
  refine st ?_
  simp
  have r46 := (zAC [[41]] (zI9.mk o18) v44 q45).frame [0] [[.osl ⟨1, 9⟩ (o18.map cS)]] (by simp)
  try simp at r46
  refine zAR r46 (by simp) rfl ?_
  simp
end Go.Proofs.YtlhikhaailhoaaaGreatDoor
