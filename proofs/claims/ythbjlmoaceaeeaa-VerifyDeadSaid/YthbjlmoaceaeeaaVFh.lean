/- For every input the law VerifyDead returns true. Part 8 of 13. No condition. -/
import Derived.Test.YthbjlmoaceaeeaaVFg
import Derived.Lib.Builder
import Derived.Lib.UnsafeStr
import Derived.Lib.Walk
import Derived.Laws.Externs
set_option linter.unusedVariables false
set_option linter.unusedSimpArgs false
set_option maxRecDepth 100000
namespace Go.Proofs.Ythbjlmoaceaeeaa
open Go Go.Abs Go.Proofs
set_option maxHeartbeats 1000000 in
theorem copyCheck_used (b : Nat) (w : World) (h0 : w.cell? ⟨b, 0, none⟩ = some (.pointer (some ⟨b, 0, none⟩))) :
    Calls Try.prog 124 #[.pointer (some ⟨b, 0, none⟩)] w fun e w' => e = .returned (.tuple #[]) ∧ w' = w := by
  go_enter Try.func124, Try.ntmps124
  go_wp2
  rw [Lib.run_neq_ptr_same w _ Try.underlying117 (show Try.prog.info? 119 = some Try.t119 from rfl)]
  go_wp2
  go_end0
  exact ⟨rfl, rfl⟩
set_option maxHeartbeats 1000000 in
theorem copyCheck_fresh (b : Nat) (w : World) (h0 : w.cell? ⟨b, 0, none⟩ = some (.pointer none)) (hsh : w.shape? b = some (119, 2)) (hfz : w.frozen? ⟨b, 0, none⟩ = false) :
    Calls Try.prog 124 #[.pointer (some ⟨b, 0, none⟩)] w fun e w' => e = .returned (.tuple #[]) ∧ w' = w.setCell ⟨b, 0, none⟩ (.pointer (some ⟨b, 0, none⟩)) := by
  have hj : Try.prog.info? 119 = some Try.t119 := rfl
  go_enter Try.func124, Try.ntmps124
  go_wp2
  rw [Lib.run_to_unsafe w ⟨b, 0, none⟩ Try.underlying117 Try.underlying171 hj (by decide) hsh (Nat.zero_lt_succ 1)]
  simp only [Result.andThen]
  rw [Oper.upon_value]
  go_wp2
  rw [run_callFunc_extern Try.func143 (by kernel_rfl) (by kernel_rfl) (by kernel_rfl) (e := Extern.AbiNoEscape.same) (by kernel_rfl)]
  rw [Lib.run_noEscape]
  simp only [Result.andThen]
  rw [Oper.upon_value]
  go_wp2
  rw [Lib.run_from_unsafe w ⟨b, 0, none⟩ Try.underlying171 Try.underlying117 hj hsh (by kernel_rfl)]
  simp only [Result.andThen]
  rw [Oper.upon_value]
  go_wp2
  go_end0
  exact ⟨rfl, rfl⟩
theorem setSelf {g : Gh} {bs : List (List AV)} {w : World} (h : Sto g bs w) {i k ty : Nat} {rest : List AV} (hb0 : bs[i]? = some (.baddr ty i :: rest)) (hk0 : g.σ[i]? = some k) :
    Sto g bs (w.setCell ⟨k, 0, none⟩ (.pointer (some ⟨k, 0, none⟩))) := by
  have hkm : k ∈ g.σ := List.mem_of_getElem? hk0
  have hblock : ∀ j, j ≠ k → (w.setCell ⟨k, 0, none⟩ (.pointer (some ⟨k, 0, none⟩))).heap[j]? = w.heap[j]? := fun j hj => RowKit.Below.heap_setCell _ _ _ _ hj
  refine { h with
    imm := fun y u hy => ?_
    blk := fun i' blk k' hb hk' => ?_
    ownσ := fun p k' hk' => by simpa using h.ownσ p k' hk' }
  · rw [World.cell?_setCell_other _ _ _ _ (fun e => h.immσ y u hy (by rw [← e]; exact hkm))]; exact h.imm y u hy
  · obtain ⟨c, ty', h1, h2, h3⟩ := h.blk i' blk k' hb hk'
    by_cases hi : i' = i
    · subst hi
      rw [hb0] at hb; cases hb
      rw [hk0] at hk'; cases hk'
      refine ⟨c.setIfInBounds 0 (.pointer (some ⟨k, 0, none⟩)), ty', ?_, by simpa using h2, fun j y hy => ?_⟩
      · simp only [World.setCell, Array.getElem?_modify, if_true]
        rw [h1]; rfl
      · obtain ⟨h5, h6, h7⟩ := h3 j y hy
        rw [getD_set_eq]
        cases j with
        | zero =>
          simp only [List.length_cons] at h2
          rw [if_pos ⟨rfl, by omega⟩]
          simp at hy; subst hy
          exact ⟨h5.imp (fun e => by simpa using e), .baddr _ _ _ hk0, OwnsBy.of_not rfl⟩
        | succ j =>
          rw [if_neg (fun e => by have := e.1; omega)]
          exact ⟨h5.imp (fun e => by simpa using e), h6, h7.world (fun _ _ _ _ hs => hs.setCell) shape_setCell⟩
    · refine ⟨c, ty', ?_, h2, fun j x hx => ?_⟩
      · rw [hblock k' (fun e => ?_)]
        · exact h1
        · subst e
          obtain ⟨l1, e1⟩ := List.getElem?_eq_some_iff.1 hk'; obtain ⟨l2, e2⟩ := List.getElem?_eq_some_iff.1 hk0
          exact hi (nodup_inj h.nodup l1 l2 (by rw [e1, e2]))
      · obtain ⟨h5, h6, h7⟩ := h3 j x hx
        exact ⟨h5, h6, h7.world (fun _ _ _ _ hs => hs.setCell) shape_setCell⟩
theorem copyCheck_raw (x : AV) : Raw Try.prog 124 [.mptr 0 0] [[.baddr 119 0, x]] (.tup []) [[.baddr 119 0, x]] := by
  have hb : ([[.baddr 119 0, x]] : List (List AV))[0]? = some [.baddr 119 0, x] := rfl
  generalize ([[.baddr 119 0, x]] : List (List AV)) = bs at hb
  refine ⟨⟨_, Try.func124, rfl, rfl⟩, fun g w vals hs h0 htg ha => ?_⟩
  obtain ⟨hsz, hv⟩ := ha
  have hv0 := hv 0 _ rfl
  obtain ⟨v0, rfl⟩ := Array.size_eq_one_iff.1 hsz
  cases hv0' : (#[v0] : Array Value).getD 0 undef with
  | pointer p =>
    rw [hv0'] at hv0
    cases hv0 with
    | mptr _ _ k hk =>
      have : v0 = .pointer (some ⟨k, 0, none⟩) := hv0'
      subst this
      obtain ⟨c, ty, h1, h2, h3⟩ := hs.blk 0 _ k hb hk
      obtain ⟨h5, h6, h7⟩ := h3 0 _ rfl
      have hty : ty = 119 ∧ 2 = c.size := by
        rcases h5 with h5 | ⟨he, b, h5⟩
        · cases h5
        · cases h5; exact ⟨rfl, he⟩
      obtain ⟨hty, hsz2⟩ := hty
      subst hty
      have hc0 := cell_of_block h1 0 (Nat.lt_of_lt_of_le (Nat.zero_lt_succ _) h2)
      have hkm : k ∈ g.σ := List.mem_of_getElem? hk
      generalize c.getD 0 undef = u at h6 hc0
      cases h6 with
      | baddr0 _ _ _ =>
        refine (copyCheck_fresh k w hc0 (by unfold World.shape?; rw [h1]; show some (119, c.size) = _; rw [← hsz2]) (cells_of_frozen h1 0)).mono ?_
        rintro e w' ⟨rfl, rfl⟩
        refine ⟨g, _, rfl, .tup [] #[] rfl (by simp), setSelf hs hb hk, ?_, h0⟩
        have h8 := Ext.refl' w g (fun k hk => hs.σ_lt hk) h0 htg
        exact { h8 with
          keep := fun j hj hT => by
            rw [RowKit.Below.heap_setCell _ _ _ _ (fun e => ?_)]
            subst e
            exact hT (.inl hkm)
          size := by simp
          os := h8.os
          tape := h8.tape
          output := h8.output }
      | baddr _ _ k' hk' =>
        rw [hk] at hk'; cases hk'
        refine (copyCheck_used k w hc0).mono ?_
        rintro e w' ⟨rfl, rfl⟩
        exact ⟨g, _, rfl, .tup [] #[] rfl (by simp), hs, Ext.refl' w' g (fun k hk => hs.σ_lt hk) h0 htg, h0⟩
  | _ => rw [hv0'] at hv0; cases hv0
theorem strings_Builder_copyCheck_ok (b : List UInt8) (r : Unit) (h : M.strings_Builder_copyCheck b = some r) :
    Raw Try.prog 124 [.mptr 0 0] [[.baddr 119 0, .osl ⟨1, 5⟩ (b.map cU)]] (.tup []) [[.baddr 119 0, .osl ⟨1, 5⟩ (b.map cU)]] := copyCheck_raw _
section
variable (b : Nat) (w : World)
theorem us_none (p : Option Addr) (w : World) : (Builtin.unsafeString_ #[161, 3] 9 #[.pointer p, .int .i64 0]).run Try.prog w = .ok (.string ⟨#[]⟩) w := Lib.run_unsafeString_none w _ _ _ p
set_option maxHeartbeats 2000000 in
set_option maxRecDepth 100000 in
theorem string_nil (h0 : w.cell? ⟨b, 1, none⟩ = some (.slice none 0 0)) :
    Calls Try.prog 75 #[.pointer (some ⟨b, 0, none⟩)] w fun e w' => e = .returned (.string ⟨#[]⟩) ∧ w' = w.drew := by
  have c1 : w.drew.cell? ⟨b, 1, none⟩ = some (.slice none 0 0) := h0
  have hUS := us_none
  have hSD : (Builtin.unsafeSliceData_ #[66] 161 #[.slice none 0 0]).run Try.prog w.drew = .ok (.pointer none) w.drew := rfl
  go_enter Try.func75, Try.ntmps75
  go_wp2
  go_region
  all_goals (go_wp2; go_ret; exact ⟨rfl, rfl⟩)
set_option maxHeartbeats 2000000 in
set_option maxRecDepth 100000 in
theorem string_room (a : Addr) (k : Nat) (h0 : w.cell? ⟨b, 1, none⟩ = some (.slice (some a) 0 (k + 1))) :
    Calls Try.prog 75 #[.pointer (some ⟨b, 0, none⟩)] w fun e w' => e = .returned (.string ⟨#[]⟩) ∧ w' = w.drew := by
  have c1 : w.drew.cell? ⟨b, 1, none⟩ = some (.slice (some a) 0 (k + 1)) := h0
  have hUS := us_none
  have hSD : (Builtin.unsafeSliceData_ #[66] 161 #[.slice (some a) 0 (k + 1)]).run Try.prog w.drew = .ok (.pointer (some a)) w.drew := rfl
  go_enter Try.func75, Try.ntmps75
  go_wp2
  go_region
  all_goals (go_wp2; go_ret; exact ⟨rfl, rfl⟩)
set_option maxHeartbeats 2000000 in
set_option maxRecDepth 100000 in
theorem string_noroom (a : Addr) (sh : TypeId × Nat) (hsh : w.shape? a.block = some sh) (h0 : w.cell? ⟨b, 1, none⟩ = some (.slice (some a) 0 0)) (hlt : b < w.heap.size) :
    Calls Try.prog 75 #[.pointer (some ⟨b, 0, none⟩)] w fun e w' => e = .returned (.string ⟨#[]⟩) ∧ w' = (w.alloc (.view a 5)).drew := by
  have c1 : w.drew.cell? ⟨b, 1, none⟩ = some (.slice (some a) 0 0) := h0
  have hUS := us_none
  have hSD : (Builtin.unsafeSliceData_ #[66] 161 #[.slice (some a) 0 0]).run Try.prog w.drew = .ok (.pointer (some ⟨w.drew.heap.size, 0, none⟩)) (w.drew.alloc (.view a 5)) :=
    Lib.run_unsafeSliceData_zero w.drew _ _ 5 Try.underlying161 a 0 sh hsh
  have c3 : (w.alloc (.view a 5)).drew.cell? ⟨b, 1, none⟩ = some (.slice (some a) 0 0) := by
    show (w.alloc (.view a 5)).cell? ⟨b, 1, none⟩ = _
    rw [World.cell?_alloc_lt _ _ _ hlt]; exact h0
  have c2 : (w.drew.alloc (.view a 5)).cell? ⟨b, 1, none⟩ = some (.slice (some a) 0 0) := c3
  go_enter Try.func75, Try.ntmps75
  go_wp2
  go_region
  all_goals (go_wp2; go_ret; exact ⟨rfl, rfl⟩)
set_option maxHeartbeats 2000000 in
set_option maxRecDepth 100000 in
theorem string_some (q cells : Nat) (l : List UInt8) (cap : Nat) (h1 : l ≠ []) (hlc : l.length ≤ cap) (hn : l.length ≤ cells) (h63 : l.length ≤ 9223372036854775807) (hsh : w.shape? q = some (5, cells))
    (h0 : w.cell? ⟨b, 1, none⟩ = some (.slice (some ⟨q, 0, none⟩) l.length cap)) (hcell : ∀ j x, l[j]? = some x → w.cell? ((⟨q, 0, none⟩ : Addr).add j) = some (.int .u8 x.toNat)) :
    Calls Try.prog 75 #[.pointer (some ⟨b, 0, none⟩)] w fun e w' => e = .returned (.string ⟨l.toArray⟩) ∧ w' = w.drew.freeze ⟨q, 0, none⟩ l.length := by
  have c1 : w.drew.cell? ⟨b, 1, none⟩ = some (.slice (some ⟨q, 0, none⟩) l.length cap) := h0
  have hpos : l.length ≠ 0 := by simpa using h1
  have hSD : (Builtin.unsafeSliceData_ #[66] 161 #[.slice (some ⟨q, 0, none⟩) l.length cap]).run Try.prog w.drew = .ok (.pointer (some ⟨q, 0, none⟩)) w.drew :=
    Lib.run_unsafeSliceData_row w.drew _ _ _ _ _ (by omega)
  have hUS : (Builtin.unsafeString_ #[161, 3] 9 #[.pointer (some ⟨q, 0, none⟩), .int .i64 l.length]).run Try.prog w.drew = .ok (.string ⟨l.toArray⟩) (w.drew.freeze ⟨q, 0, none⟩ l.length) :=
    Lib.run_unsafeString_row w.drew 161 3 9 5 Try.underlying161 (by kernel_rfl) q cells hsh l h1 hn h63 hcell
  clear h1 hpos hlc hn h63 hcell
  generalize hw : w.drew.freeze ⟨q, 0, none⟩ l.length = wf at hUS ⊢
  go_enter Try.func75, Try.ntmps75
  go_wp2
  go_region
  all_goals (go_wp2; go_ret; exact ⟨rfl, rfl⟩)
end
theorem Sto.move {g : Gh} {bs : List (List AV)} {w w' : World} (h : Sto g bs w) (hc : ∀ a v, w.cell? a = some v → w'.cell? a = some v) (hb : ∀ k, k ∈ g.σ → w'.heap[k]? = w.heap[k]?) (hsz : w.heap.size ≤ w'.heap.size)
    (hown : ∀ (i j k : Nat) c ty blk x, bs[i]? = some blk → g.σ[i]? = some k → w.heap[k]? = some (.cells c ty (0, 0)) → blk[j]? = some x → OwnsBy g.imm w (g.own (.cell i j)) x (c.getD j undef) → OwnsBy g.imm w' (g.own (.cell i j)) x (c.getD j undef)) :
    Sto g bs w' := { h with
  imm := fun x v hx => hc _ _ (h.imm x v hx)
  blk := fun i blk k h1 h2 => by
    obtain ⟨c, ty, q1, q2, q3⟩ := h.blk i blk k h1 h2
    refine ⟨c, ty, by rw [hb k (List.mem_of_getElem? h2)]; exact q1, q2, fun j x hx => ?_⟩
    obtain ⟨r1, r2, r3⟩ := q3 j x hx
    exact ⟨r1, r2, hown i j k c ty blk x h1 h2 q1 hx r3⟩
  ownσ := fun p k hp => ⟨(h.ownσ p k hp).1, Nat.lt_of_lt_of_le (h.ownσ p k hp).2 hsz⟩ }
theorem sto_drew {g : Gh} {bs : List (List AV)} {w : World} (h : Sto g bs w) : Sto g bs w.drew :=
  Sto.move h (fun _ _ h => h) (fun _ _ => rfl) (Nat.le_refl _) fun _ _ _ _ _ _ _ _ _ _ _ h => h
theorem rowSh_shape {w : World} {k : Nat} {sh : TypeId × Nat} (h : rowSh w k = some sh) : w.shape? k = some sh := by
  unfold rowSh at h; unfold World.shape?
  split at h
  · rename_i c ty fr e; rw [e]
    split at h
    · exact h
    · cases h
  · cases h
theorem heap_freeze (w : World) (q n k : Nat) (h : k ≠ q) : (w.freeze ⟨q, 0, none⟩ n).heap[k]? = w.heap[k]? := by
  unfold World.freeze
  split
  · rfl
  · simp only [Array.getElem?_modify]; rw [if_neg (fun e => h e.symm)]
theorem freeze_at {w : World} {q n : Nat} {c : Array Value} {ty : TypeId} {fr : Nat × Nat} (h : w.heap[q]? = some (.cells c ty fr)) (hn : n ≠ 0) :
    (w.freeze ⟨q, 0, none⟩ n).heap[q]? = some (.cells c ty (if fr.1 == fr.2 then (0, n) else (0, max fr.2 n))) := by
  unfold World.freeze
  rw [if_neg hn]
  simp only [Array.getElem?_modify, if_true, h, Option.map_some]
  obtain ⟨lo, hi⟩ := fr
  simp
theorem strings_Builder_String_ok (b : List UInt8) (r : List UInt8) (h : M.strings_Builder_String b = some r) :
    Raw Try.prog 75 [.mptr 0 0] [[.baddr 119 0, .osl ⟨1, 5⟩ (b.map cU)]] (.str r) [[.baddr 119 0, .osl ⟨1, 5⟩ (b.map cU)]] := by
  obtain rfl := Option.some.inj h
  refine ⟨⟨_, Try.func75, rfl, rfl⟩, fun g w vals hs h0 htg ha => ?_⟩
  obtain ⟨hsz, hv⟩ := ha
  have hv0 := hv 0 _ rfl
  obtain ⟨v0, rfl⟩ := Array.size_eq_one_iff.1 hsz
  cases hv0' : (#[v0] : Array Value).getD 0 undef with
  | pointer p =>
    rw [hv0'] at hv0
    cases hv0 with
    | mptr _ _ k hk =>
      have : v0 = .pointer (some ⟨k, 0, none⟩) := hv0'
      subst this
      obtain ⟨c, ty, h1, h2, h3⟩ := hs.blk 0 _ k rfl hk
      obtain ⟨h5, h6, h7⟩ := h3 1 _ rfl
      have hc1 := cell_of_block h1 1 (Nat.lt_of_lt_of_le (Nat.lt_succ_self _) h2)
      have hkl := hs.σ_lt (List.mem_of_getElem? hk)
      have hrefl := Ext.refl' w g (fun k hk => hs.σ_lt hk) h0 htg
      have hext : ∀ w' : World, (∀ k, k < w.heap.size → ¬ Fx.T ⟨w, g⟩ k → w'.heap[k]? = w.heap[k]?) → w.heap.size ≤ w'.heap.size → w'.os = w.os → w'.tape = w.tape → w'.output = w.output → Ext ⟨w, g⟩ g w' := fun w' p1 p2 p3 p4 p5 =>
        { hrefl with keep := p1, size := p2, os := p3, tape := p4, output := p5 }
      have hstr : b.length ≤ 281474976710656 → Rep g.imm g.σ (.str b) (.string ⟨b.toArray⟩) := fun hl => .str _ _ (by simp) (by omega)
      generalize hcv : c.getD 1 undef = u at h6 h7 hc1
      cases h6' : b with
      | nil =>
        subst h6'
        have hrs : Rep g.imm g.σ (.str []) (.string ⟨#[]⟩) := hstr (by simp)
        cases h6 with
        | osl0 _ =>
          refine (string_nil k w hc1).mono ?_
          rintro e w' ⟨rfl, rfl⟩
          exact ⟨g, _, rfl, hrs, sto_drew hs, hext _ (fun _ _ _ => rfl) (Nat.le_refl _) rfl rfl rfl, h0⟩
        | osl _ _ a n cap vs hn hcap hbd he hi hr =>
          have hn0 : n = 0 := by simpa using hn
          subst hn0
          cases cap with
          | succ cap =>
            refine (string_room k w a cap hc1).mono ?_
            rintro e w' ⟨rfl, rfl⟩
            exact ⟨g, _, rfl, hrs, sto_drew hs, hext _ (fun _ _ _ => rfl) (Nat.le_refl _) rfl rfl rfl, h0⟩
          | zero =>
            rcases h7 _ _ _ rfl with h8 | ⟨a', h8, h9, ⟨ha1, ha2, m, h10, h11⟩, h12⟩
            · cases h8
            · cases h8
              refine (string_noroom k w a _ (rowSh_shape h10) hc1 hkl).mono ?_
              rintro e w' ⟨rfl, rfl⟩
              refine ⟨g, _, rfl, hrs, sto_drew (Sto.move hs (fun x v hx => ?_) (fun k' hk' => heap_alloc_old w _ (hs.σ_lt hk')) (by simp) fun i j k' c' ty' blk x e1 e2 e3 e4 e5 => ?_), hext _ (fun k' hk' _ => heap_alloc_old w _ hk') (by simp) rfl rfl rfl, h0⟩
              · rw [World.cell?_alloc_lt _ _ _ (World.block_lt_of_cell? _ _ hx)]; exact hx
              · exact e5.world (fun _ _ _ _ hs => hs.alloc (fun _ _ => rfl)) shape_alloc
      | cons x0 b0 =>
        have hne : b ≠ [] := by rw [h6']; simp
        rw [← h6']
        clear h6'
        generalize hl0 : b.map cU = l0 at h6
        cases h6 with
        | osl0 _ => exact absurd (List.map_eq_nil_iff.1 hl0) hne
        | osl _ _ a n cap vs hn hcap hbd he hi hr =>
          subst hl0
          have hn' : n = b.length := by simpa using hn
          subst hn'
          rcases h7 _ _ _ rfl with h8 | ⟨a', h8, h9, ⟨ha1, ha2, m, h10, h11⟩, h12⟩
          · cases h8
          · cases h8
            obtain ⟨q, off, spot⟩ := a
            simp only at ha1 ha2 h9 h10
            subst ha1; subst ha2
            have hpos : b.length ≠ 0 := by simpa using hne
            have hcell : ∀ j x, b[j]? = some x → w.cell? ((⟨q, 0, none⟩ : Addr).add j) = some (.int .u8 x.toNat) := fun j x hx => by
              have e1 : (b.map cU)[j]? = some [.int .u8 x.toNat] := by rw [List.getElem?_map, hx]; rfl
              have e2 := hi j _ e1 0 _ rfl
              have e3 := hr j _ e1 0 _ rfl
              have e4 := hs.imm _ _ e2
              simp only [Nat.mul_one, Nat.add_zero] at e4
              rw [e4]
              generalize vs j 0 = y at e3
              cases e3; rfl
            have hblk : ∃ c' fr, w.heap[q]? = some (.cells c' 5 fr) ∧ (fr.1 = fr.2 ∨ fr.1 = 0) ∧ c'.size = m := by
              unfold rowSh at h10
              split at h10
              · rename_i c' ty' fr e
                split at h10
                · rename_i hfr; cases h10; exact ⟨c', fr, e, hfr, rfl⟩
                · cases h10
              · cases h10
            obtain ⟨c', fr, hq, hfr, hm⟩ := hblk
            have hcm : cap ≤ m := by simpa using h11
            refine (string_some k w q m b cap hne hcap (by omega) (by omega) (rowSh_shape h10) hc1 hcell).mono ?_
            rintro e w' ⟨rfl, rfl⟩
            have hqσ := (hs.ownσ _ q h9).1
            have hfz : ∀ k', k' ≠ q → (w.freeze ⟨q, 0, none⟩ b.length).heap[k']? = w.heap[k']? := fun k' hk' => heap_freeze w q _ k' hk'
            have hfq := freeze_at (n := b.length) hq hpos
            have hsize : (w.freeze ⟨q, 0, none⟩ b.length).heap.size = w.heap.size := by unfold World.freeze; split <;> simp
            have hcells : ∀ x, (w.freeze ⟨q, 0, none⟩ b.length).cell? x = w.cell? x := fun x => by
              unfold World.cell?
              by_cases hx : x.block = q
              · rw [hx, hfq, hq]
              · rw [hfz _ hx]
            have hdrw : w.drew.freeze ⟨q, 0, none⟩ b.length = (w.freeze ⟨q, 0, none⟩ b.length).drew := by
              unfold World.freeze; split <;> rfl
            rw [hdrw]
            refine ⟨g, _, rfl, hstr hbd, sto_drew (Sto.move hs (fun x v hx => by rw [hcells]; exact hx) (fun k' hk' => hfz k' (fun e => hqσ (by rw [← e]; exact hk'))) (by rw [hsize]; exact Nat.le_refl _) fun i j k' c2 ty' blk x e1 e2 e3 e4 e5 => ?_),
              hext _ (fun k' hk' hT => hfz k' (fun e => hT (.inr ⟨0, 1, by rw [e]; exact h9⟩))) (by show _ ≤ (w.freeze ⟨q, 0, none⟩ b.length).heap.size; rw [hsize]; exact Nat.le_refl _) (by show (w.freeze ⟨q, 0, none⟩ b.length).os = _; unfold World.freeze; split <;> rfl)
              (by show (w.freeze ⟨q, 0, none⟩ b.length).tape = _; unfold World.freeze; split <;> rfl) (by show (w.freeze ⟨q, 0, none⟩ b.length).output = _; unfold World.freeze; split <;> rfl), h0⟩
            cases i with
            | succ i => simp at e1
            | zero =>
              simp only [List.getElem?_cons_zero, Option.some.injEq] at e1
              subst e1
              rw [hk] at e2; cases e2
              rw [h1] at e3; cases e3
              cases j with
              | zero => simp only [List.getElem?_cons_zero, Option.some.injEq] at e4; subst e4; exact OwnsBy.of_not rfl
              | succ j =>
                cases j with
                | succ j => simp at e4
                | zero =>
                  simp only [List.getElem?_cons_succ, List.getElem?_cons_zero, Option.some.injEq] at e4
                  subst e4
                  rw [hcv]
                  intro base n cap' hv'
                  cases hv'
                  refine .inr ⟨_, rfl, h9, ⟨rfl, rfl, m, ?_, h11⟩, fun j hj1 hj2 => ?_⟩
                  · unfold rowSh
                    rw [hfq, ← hm]
                    simp only
                    split <;> simp
                  · obtain ⟨p1, p2, p3⟩ := h12 j hj1 hj2
                    refine ⟨p1, by rw [hcells]; exact p2, ?_⟩
                    have hb0 : ((⟨q, 0, none⟩ : Addr).add j).block = q := add_block _ _
                    have ho0 : ((⟨q, 0, none⟩ : Addr).add j).off = j := by rw [add_off]; exact Nat.zero_add j
                    unfold World.frozen? at p3 ⊢
                    rw [hb0, hq] at p3
                    rw [hb0, hfq]
                    rw [ho0] at p3 ⊢
                    simp only [Nat.mul_one] at hj1
                    obtain ⟨lo, hi'⟩ := fr
                    simp only [Bool.and_eq_false_iff, decide_eq_false_iff_not] at p3 hfr
                    by_cases hlo : lo = hi'
                    · rw [if_pos (by simp [hlo])]
                      simp; omega
                    · rw [if_neg (by simp [hlo])]
                      simp; omega
  | _ => rw [hv0'] at hv0; cases hv0
end Go.Proofs.Ythbjlmoaceaeeaa
set_option linter.unusedVariables false
set_option linter.unusedSimpArgs false
set_option maxRecDepth 100000
set_option maxHeartbeats 1000000
namespace Go.Proofs.Ythbjlmoaceaeeaa
open Go Go.Abs
theorem bytecode_within_ok (n1 : Int) (low2 : Int) (high3 : Int) (r : Bool) (h : M.bytecode_within n1 low2 high3 = some r) : Pure Try.prog 53 [.int .i64 n1, .int .i64 low2, .int .i64 high3] (.bool r) := by
  rw [M.bytecode_within] at h
  refine pure_of_body Try.func53 (by rfl) (by rfl) (by simp) (by simp) (by simp) ?_
  refine cut 15 0 [(0, .int .i64 n1), (1, .int .i64 low2), (2, .int .i64 high3)] [] ?_ ?_
  · refine st ?_
    simp
  refine cut 15 0 [(6, .bool ((leI low2 n1) && (leI n1 high3)))] [] ?_ ?_
  · rcases tf (leI low2 n1) with g4 | g4
    · have c5 := leT g4
      refine st ?_
      simp [g4]
    have c6 := leF g4
    refine st ?_
    simp [g4]
  refine awp_ret ?_
  obtain rfl := oi h
  simp
end Go.Proofs.Ythbjlmoaceaeeaa
set_option linter.unusedVariables false
set_option linter.unusedSimpArgs false
set_option maxRecDepth 100000
set_option maxHeartbeats 1000000
namespace Go.Proofs.Ythbjlmoaceaeeaa
open Go Go.Abs
theorem bytecode_taken_ok (n1 : Int) (r : Int) (h : M.bytecode_taken n1 = some r) : Pure Try.prog 54 [.int .i64 n1] (.int .i64 r) := by
  rw [M.bytecode_taken] at h
  refine pure_of_body Try.func54 (by rfl) (by rfl) (by simp) (by simp) (by simp) ?_
  refine cut 9 0 [(0, .int .i64 n1)] [] ?_ ?_
  · refine st ?_
    simp
  refine awp_seq ?_
  refine cut 9 0 [(3, .int .i64 n1)] [] ?_ ?_
  · refine st ?_
    simp
  refine awp_block ?_
  refine awp_seq ?_
  refine cut 9 0 [(3, .int .i64 n1), (4, .bool (eqI n1 6))] [] ?_ ?_
  · refine st ?_
    simp
  rcases sp h with ⟨g2, h⟩ | ⟨g2, h⟩
  · have c3 := eqT g2
    refine condT rfl g2 ?_
    refine awp_skip ?_
    refine seq_eq ?_
    refine condT rfl (by simp [g2]) ?_
    refine cut 9 0 [(2, .int .i64 1)] [] ?_ ?_
    · refine st ?_
      simp
    refine awp_ret ?_
    refine ret_blk ?_
    refine ret_seq ?_
    obtain rfl := oi h
    simp
  have c4 := eqF g2
  refine condF rfl g2 ?_
  refine cut 9 0 [(3, .int .i64 n1), (4, .bool (eqI n1 11))] [] ?_ ?_
  · refine st ?_
    simp
  rcases sp h with ⟨g5, h⟩ | ⟨g5, h⟩
  · have c6 := eqT g5
    refine condT rfl g5 ?_
    refine awp_skip ?_
    refine seq_eq ?_
    refine condT rfl (by simp [g5]) ?_
    refine cut 9 0 [(2, .int .i64 1)] [] ?_ ?_
    · refine st ?_
      simp
    refine awp_ret ?_
    refine ret_blk ?_
    refine ret_seq ?_
    obtain rfl := oi h
    simp
  have c7 := eqF g5
  refine condF rfl g5 ?_
  refine cut 9 0 [(3, .int .i64 n1), (4, .bool (eqI n1 13))] [] ?_ ?_
  · refine st ?_
    simp
  rcases sp h with ⟨g8, h⟩ | ⟨g8, h⟩
  · have c9 := eqT g8
    refine condT rfl g8 ?_
    refine awp_skip ?_
    refine seq_eq ?_
    refine condT rfl (by simp [g8]) ?_
    refine cut 9 0 [(2, .int .i64 1)] [] ?_ ?_
    · refine st ?_
      simp
    refine awp_ret ?_
    refine ret_blk ?_
    refine ret_seq ?_
    obtain rfl := oi h
    simp
  have c10 := eqF g8
  refine condF rfl g8 ?_
  refine last 9 0 [(4, .bool (eqI n1 14))] [] ?_ fun zz hs => ?_
  · refine st ?_
    simp
  refine seq_le ?_ hs
  rcases sp h with ⟨g11, h⟩ | ⟨g11, h⟩
  · have c12 := eqT g11
    refine condT rfl g11 ?_
    refine cut 9 0 [(2, .int .i64 1)] [] ?_ ?_
    · refine st ?_
      simp
    refine awp_ret ?_
    refine ret_blk ?_
    refine ret_seq ?_
    obtain rfl := oi h
    simp
  have c13 := eqF g11
  refine condF rfl g11 ?_
  refine awp_skip ?_
  refine blk_n ?_
  refine seq_eq ?_
  refine cut 9 0 [(2, .int .i64 2)] [] ?_ ?_
  · refine st ?_
    simp
  refine awp_ret ?_
  obtain rfl := oi h
  simp
end Go.Proofs.Ythbjlmoaceaeeaa
set_option linter.unusedVariables false
set_option linter.unusedSimpArgs false
set_option maxRecDepth 100000
set_option maxHeartbeats 1000000
namespace Go.Proofs.Ythbjlmoaceaeeaa
open Go Go.Abs
theorem bytecode_Effect_ok (i1 : Api.Instr) (r : Int × Int × Int) (h : M.bytecode_Effect i1 = some r) : Pure Try.prog 20 [.agg [.int .i64 i1.Op, .int .i64 i1.A, .int .i64 i1.B]] (.tup [.int .i64 r.1, .int .i64 r.2.1, .int .i64 r.2.2]) := by
  rw [M.bytecode_Effect] at h
  refine pure_of_body Try.func20 (by rfl) (by rfl) (by simp) (by simp) (by simp) ?_
  refine cut 49 0 [(1, .mptr 0 0)] [(Api.Instr.c i1)] ?_ ?_
  · refine st ?_
    simp
  refine awp_seq ?_
  refine cut 49 0 [(1, .mptr 0 0), (7, .int .i64 i1.Op)] [(Api.Instr.c i1)] ?_ ?_
  · refine st ?_
    simp
  refine awp_block ?_
  refine awp_seq ?_
  refine cut 49 0 [(1, .mptr 0 0), (7, .int .i64 i1.Op), (8, .bool (eqI i1.Op 1))] [(Api.Instr.c i1)] ?_ ?_
  · refine st ?_
    simp
  rcases sp h with ⟨g2, h⟩ | ⟨g2, h⟩
  · have c3 := eqT g2
    refine condT rfl g2 ?_
    refine awp_skip ?_
    refine seq_eq ?_
    refine condT rfl (by simp [g2]) ?_
    refine cut 49 0 [(2, .int .i64 0), (3, .int .i64 1), (4, .int .i64 0)] [(Api.Instr.c i1)] ?_ ?_
    · refine st ?_
      simp
    refine awp_ret ?_
    refine ret_blk ?_
    refine ret_seq ?_
    obtain rfl := oi h
    simp
  have c4 := eqF g2
  refine condF rfl g2 ?_
  refine cut 49 0 [(1, .mptr 0 0), (7, .int .i64 i1.Op), (8, .bool (eqI i1.Op 2))] [(Api.Instr.c i1)] ?_ ?_
  · refine st ?_
    simp
  rcases sp h with ⟨g5, h⟩ | ⟨g5, h⟩
  · have c6 := eqT g5
    refine condT rfl g5 ?_
    refine awp_skip ?_
    refine seq_eq ?_
    refine condT rfl (by simp [g5]) ?_
    refine cut 49 0 [(2, .int .i64 0), (3, .int .i64 1), (4, .int .i64 0)] [(Api.Instr.c i1)] ?_ ?_
    · refine st ?_
      simp
    refine awp_ret ?_
    refine ret_blk ?_
    refine ret_seq ?_
    obtain rfl := oi h
    simp
  have c7 := eqF g5
  refine condF rfl g5 ?_
  refine cut 49 0 [(1, .mptr 0 0), (7, .int .i64 i1.Op), (8, .bool (eqI i1.Op 3))] [(Api.Instr.c i1)] ?_ ?_
  · refine st ?_
    simp
  rcases sp h with ⟨g8, h⟩ | ⟨g8, h⟩
  · have c9 := eqT g8
    refine condT rfl g8 ?_
    refine awp_skip ?_
    refine seq_eq ?_
    refine condT rfl (by simp [g8]) ?_
    refine cut 49 0 [(2, .int .i64 0), (3, .int .i64 1), (4, .int .i64 0)] [(Api.Instr.c i1)] ?_ ?_
    · refine st ?_
      simp
    refine awp_ret ?_
    refine ret_blk ?_
    refine ret_seq ?_
    obtain rfl := oi h
    simp
  have c10 := eqF g8
  refine condF rfl g8 ?_
  refine cut 49 0 [(1, .mptr 0 0), (7, .int .i64 i1.Op), (8, .bool (eqI i1.Op 5))] [(Api.Instr.c i1)] ?_ ?_
  · refine st ?_
    simp
  rcases sp h with ⟨g11, h⟩ | ⟨g11, h⟩
  · have c12 := eqT g11
    refine condT rfl g11 ?_
    refine awp_skip ?_
    refine seq_eq ?_
    refine condT rfl (by simp [g11]) ?_
    refine cut 49 0 [(2, .int .i64 0), (3, .int .i64 1), (4, .int .i64 0)] [(Api.Instr.c i1)] ?_ ?_
    · refine st ?_
      simp
    refine awp_ret ?_
    refine ret_blk ?_
    refine ret_seq ?_
    obtain rfl := oi h
    simp
  have c13 := eqF g11
  refine condF rfl g11 ?_
  refine last 49 0 [(1, .mptr 0 0), (7, .int .i64 i1.Op), (8, .bool (eqI i1.Op 6))] [(Api.Instr.c i1)] ?_ fun zz hs => ?_
  · refine st ?_
    simp
  refine seq_le ?_ hs
  rcases sp h with ⟨g14, h⟩ | ⟨g14, h⟩
  · have c15 := eqT g14
    refine condT rfl g14 ?_
    refine cut 49 0 [(2, .int .i64 0), (3, .int .i64 1), (4, .int .i64 0)] [(Api.Instr.c i1)] ?_ ?_
    · refine st ?_
      simp
    refine awp_ret ?_
    refine ret_blk ?_
    refine ret_seq ?_
    obtain rfl := oi h
    simp
  have c16 := eqF g14
  refine condF rfl g14 ?_
  refine awp_seq ?_
  refine cut 49 0 [(1, .mptr 0 0), (7, .int .i64 i1.Op), (14, .bool (eqI i1.Op 4))] [(Api.Instr.c i1)] ?_ ?_
  · refine st ?_
    simp
  rcases sp h with ⟨g17, h⟩ | ⟨g17, h⟩
  · have c18 := eqT g17
    refine condT rfl g17 ?_
    refine awp_skip ?_
    refine seq_eq ?_
    refine condT rfl (by simp [g17]) ?_
    refine cut 49 0 [(2, .int .i64 1), (3, .int .i64 0), (4, .int .i64 0)] [(Api.Instr.c i1)] ?_ ?_
    · refine st ?_
      simp
    refine awp_ret ?_
    refine ret_blk ?_
    refine ret_seq ?_
    obtain rfl := oi h
    simp
  have c19 := eqF g17
  refine condF rfl g17 ?_
  refine cut 49 0 [(1, .mptr 0 0), (7, .int .i64 i1.Op), (14, .bool (eqI i1.Op 9))] [(Api.Instr.c i1)] ?_ ?_
  · refine st ?_
    simp
  rcases sp h with ⟨g20, h⟩ | ⟨g20, h⟩
  · have c21 := eqT g20
    refine condT rfl g20 ?_
    refine awp_skip ?_
    refine seq_eq ?_
    refine condT rfl (by simp [g20]) ?_
    refine cut 49 0 [(2, .int .i64 1), (3, .int .i64 0), (4, .int .i64 0)] [(Api.Instr.c i1)] ?_ ?_
    · refine st ?_
      simp
    refine awp_ret ?_
    refine ret_blk ?_
    refine ret_seq ?_
    obtain rfl := oi h
    simp
  have c22 := eqF g20
  refine condF rfl g20 ?_
  refine last 49 0 [(1, .mptr 0 0), (7, .int .i64 i1.Op), (14, .bool (eqI i1.Op 13))] [(Api.Instr.c i1)] ?_ fun zz hs => ?_
  · refine st ?_
    simp
  refine seq_le ?_ hs
  rcases sp h with ⟨g23, h⟩ | ⟨g23, h⟩
  · have c24 := eqT g23
    refine condT rfl g23 ?_
    refine cut 49 0 [(2, .int .i64 1), (3, .int .i64 0), (4, .int .i64 0)] [(Api.Instr.c i1)] ?_ ?_
    · refine st ?_
      simp
    refine awp_ret ?_
    refine ret_blk ?_
    refine ret_seq ?_
    obtain rfl := oi h
    simp
  have c25 := eqF g23
  refine condF rfl g23 ?_
  refine awp_seq ?_
  refine cut 49 0 [(1, .mptr 0 0), (7, .int .i64 i1.Op), (18, .bool (eqI i1.Op 7))] [(Api.Instr.c i1)] ?_ ?_
  · refine st ?_
    simp
  rcases sp h with ⟨g26, h⟩ | ⟨g26, h⟩
  · have c27 := eqT g26
    refine condT rfl g26 ?_
    refine awp_skip ?_
    refine seq_eq ?_
    refine condT rfl (by simp [g26]) ?_
    refine cut 49 0 [(1, .mptr 0 0), (5, .int .i64 i1.A)] [(Api.Instr.c i1)] ?_ ?_
    · refine st ?_
      simp
    refine awp_seq ?_
    refine cut 49 0 [(1, .mptr 0 0), (5, .int .i64 i1.A), (25, .bool (eqI i1.Op 7))] [(Api.Instr.c i1)] ?_ ?_
    · refine st ?_
      simp
    refine condT rfl (by simp [g26]) ?_
    refine last 49 0 [(5, .int .i64 i1.B)] [(Api.Instr.c i1)] ?_ fun zz hs => ?_
    · refine st ?_
      simp
    refine seq_le ?_ hs
    refine awp_seq ?_
    obtain ⟨v28, q29, h⟩ := bs h
    refine cut 49 0 [(5, .int .i64 i1.B), (30, .bool (!v28))] [(Api.Instr.c i1)] ?_ ?_
    · refine st ?_
      simp
      have r33 := bytecode_within_ok i1.B 0 1000 v28 q29
      try simp [] at r33
      refine callPure r33 (by simp) rfl ?_
      simp
    rcases sp h with ⟨g30, h⟩ | ⟨g30, h⟩
    · have g31 := notT g30
      refine condT rfl g30 ?_
      refine cut 49 0 [(2, .int .i64 0), (3, .int .i64 0), (4, .int .i64 2)] [(Api.Instr.c i1)] ?_ ?_
      · refine st ?_
        simp
      refine awp_ret ?_
      refine ret_seq ?_
      refine ret_blk ?_
      refine ret_seq ?_
      obtain rfl := oi h
      simp
    have g32 := notF g30
    refine condF rfl g30 ?_
    refine awp_skip ?_
    refine seq_eq ?_
    refine cut 49 0 [(2, .int .i64 i1.B), (3, .int .i64 1), (4, .int .i64 0)] [(Api.Instr.c i1)] ?_ ?_
    · refine st ?_
      simp
    refine awp_ret ?_
    refine ret_blk ?_
    refine ret_seq ?_
    obtain rfl := oi h
    simp
  have c34 := eqF g26
  refine condF rfl g26 ?_
  refine last 49 0 [(1, .mptr 0 0), (7, .int .i64 i1.Op), (18, .bool (eqI i1.Op 10))] [(Api.Instr.c i1)] ?_ fun zz hs => ?_
  · refine st ?_
    simp
  refine seq_le ?_ hs
  rcases sp h with ⟨g35, h⟩ | ⟨g35, h⟩
  · have c36 := eqT g35
    refine condT rfl g35 ?_
    refine cut 49 0 [(1, .mptr 0 0), (5, .int .i64 i1.A)] [(Api.Instr.c i1)] ?_ ?_
    · refine st ?_
      simp
    refine awp_seq ?_
    refine cut 49 0 [(1, .mptr 0 0), (5, .int .i64 i1.A), (25, .bool (eqI i1.Op 7))] [(Api.Instr.c i1)] ?_ ?_
    · refine st ?_
      simp
    refine condF rfl (by simp [g26]) ?_
    refine awp_skip ?_
    refine seq_eq ?_
    refine awp_seq ?_
    obtain ⟨v37, q38, h⟩ := bs h
    refine cut 49 0 [(5, .int .i64 i1.A), (30, .bool (!v37))] [(Api.Instr.c i1)] ?_ ?_
    · refine st ?_
      simp
      have r42 := bytecode_within_ok i1.A 0 1000 v37 q38
      try simp [] at r42
      refine callPure r42 (by simp) rfl ?_
      simp
    rcases sp h with ⟨g39, h⟩ | ⟨g39, h⟩
    · have g40 := notT g39
      refine condT rfl g39 ?_
      refine cut 49 0 [(2, .int .i64 0), (3, .int .i64 0), (4, .int .i64 2)] [(Api.Instr.c i1)] ?_ ?_
      · refine st ?_
        simp
      refine awp_ret ?_
      refine ret_seq ?_
      refine ret_blk ?_
      refine ret_seq ?_
      obtain rfl := oi h
      simp
    have g41 := notF g39
    refine condF rfl g39 ?_
    refine awp_skip ?_
    refine seq_eq ?_
    refine cut 49 0 [(2, .int .i64 i1.A), (3, .int .i64 1), (4, .int .i64 0)] [(Api.Instr.c i1)] ?_ ?_
    · refine st ?_
      simp
    refine awp_ret ?_
    refine ret_blk ?_
    refine ret_seq ?_
    obtain rfl := oi h
    simp
  have c43 := eqF g35
  refine condF rfl g35 ?_
  refine cut 49 0 [(1, .mptr 0 0), (7, .int .i64 i1.Op), (32, .bool (eqI i1.Op 8))] [(Api.Instr.c i1)] ?_ ?_
  · refine st ?_
    simp
  rcases sp h with ⟨g44, h⟩ | ⟨g44, h⟩
  · have c45 := eqT g44
    refine condT rfl g44 ?_
    refine cut 49 0 [(2, .int .i64 2), (3, .int .i64 1), (4, .int .i64 0)] [(Api.Instr.c i1)] ?_ ?_
    · refine st ?_
      simp
    refine awp_ret ?_
    refine ret_blk ?_
    refine ret_seq ?_
    obtain rfl := oi h
    simp
  have c46 := eqF g44
  refine condF rfl g44 ?_
  refine awp_seq ?_
  refine cut 49 0 [(1, .mptr 0 0), (7, .int .i64 i1.Op), (34, .bool (eqI i1.Op 11))] [(Api.Instr.c i1)] ?_ ?_
  · refine st ?_
    simp
  rcases sp h with ⟨g47, h⟩ | ⟨g47, h⟩
  · have c48 := eqT g47
    refine condT rfl g47 ?_
    refine awp_skip ?_
    refine seq_eq ?_
    refine condT rfl (by simp [g47]) ?_
    refine cut 49 0 [(2, .int .i64 1), (3, .int .i64 1), (4, .int .i64 0)] [(Api.Instr.c i1)] ?_ ?_
    · refine st ?_
      simp
    refine awp_ret ?_
    refine ret_blk ?_
    refine ret_seq ?_
    obtain rfl := oi h
    simp
  have c49 := eqF g47
  refine condF rfl g47 ?_
  refine last 49 0 [(1, .mptr 0 0), (7, .int .i64 i1.Op), (34, .bool (eqI i1.Op 12))] [(Api.Instr.c i1)] ?_ fun zz hs => ?_
  · refine st ?_
    simp
  refine seq_le ?_ hs
  rcases sp h with ⟨g50, h⟩ | ⟨g50, h⟩
  · have c51 := eqT g50
    refine condT rfl g50 ?_
    refine cut 49 0 [(2, .int .i64 1), (3, .int .i64 1), (4, .int .i64 0)] [(Api.Instr.c i1)] ?_ ?_
    · refine st ?_
      simp
    refine awp_ret ?_
    refine ret_blk ?_
    refine ret_seq ?_
    obtain rfl := oi h
    simp
  have c52 := eqF g50
  refine condF rfl g50 ?_
  refine awp_seq ?_
  refine cut 49 0 [(1, .mptr 0 0), (7, .int .i64 i1.Op), (37, .bool (eqI i1.Op 14))] [(Api.Instr.c i1)] ?_ ?_
  · refine st ?_
    simp
  rcases sp h with ⟨g53, h⟩ | ⟨g53, h⟩
  · have c54 := eqT g53
    refine condT rfl g53 ?_
    refine awp_skip ?_
    refine seq_eq ?_
    refine condT rfl (by simp [g53]) ?_
    refine cut 49 0 [(2, .int .i64 0), (3, .int .i64 0), (4, .int .i64 0)] [(Api.Instr.c i1)] ?_ ?_
    · refine st ?_
      simp
    refine awp_ret ?_
    refine ret_blk ?_
    refine ret_seq ?_
    obtain rfl := oi h
    simp
  have c55 := eqF g53
  refine condF rfl g53 ?_
  refine last 49 0 [(1, .mptr 0 0), (7, .int .i64 i1.Op), (37, .bool (eqI i1.Op 16))] [(Api.Instr.c i1)] ?_ fun zz hs => ?_
  · refine st ?_
    simp
  refine seq_le ?_ hs
  rcases sp h with ⟨g56, h⟩ | ⟨g56, h⟩
  · have c57 := eqT g56
    refine condT rfl g56 ?_
    refine cut 49 0 [(2, .int .i64 0), (3, .int .i64 0), (4, .int .i64 0)] [(Api.Instr.c i1)] ?_ ?_
    · refine st ?_
      simp
    refine awp_ret ?_
    refine ret_blk ?_
    refine ret_seq ?_
    obtain rfl := oi h
    simp
  have c58 := eqF g56
  refine condF rfl g56 ?_
  refine cut 49 0 [(1, .mptr 0 0), (40, .bool (eqI i1.Op 15))] [(Api.Instr.c i1)] ?_ ?_
  · refine st ?_
    simp
  rcases sp h with ⟨g59, h⟩ | ⟨g59, h⟩
  · have c60 := eqT g59
    refine condT rfl g59 ?_
    refine awp_seq ?_
    obtain ⟨v61, q62, h⟩ := bs h
    refine cut 49 0 [(1, .mptr 0 0), (45, .bool (!v61))] [(Api.Instr.c i1)] ?_ ?_
    · refine st ?_
      simp
      have r69 := bytecode_within_ok i1.A 1 14 v61 q62
      try simp [] at r69
      refine callPure r69 (by simp) rfl ?_
      simp
    rcases sp h with ⟨g63, h⟩ | ⟨g63, h⟩
    · have g64 := notT g63
      refine condT rfl g63 ?_
      refine cut 49 0 [(2, .int .i64 0), (3, .int .i64 0), (4, .int .i64 2)] [(Api.Instr.c i1)] ?_ ?_
      · refine st ?_
        simp
      refine awp_ret ?_
      refine ret_seq ?_
      refine ret_blk ?_
      refine ret_seq ?_
      obtain rfl := oi h
      simp
    have g65 := notF g63
    refine condF rfl g63 ?_
    refine awp_skip ?_
    refine seq_eq ?_
    obtain ⟨v66, q67, h⟩ := bs h
    refine cut 49 0 [(2, .int .i64 v66), (3, .int .i64 1), (4, .int .i64 0)] [(Api.Instr.c i1)] ?_ ?_
    · refine st ?_
      simp
      have r68 := bytecode_taken_ok i1.A v66 q67
      try simp [] at r68
      refine callPure r68 (by simp) rfl ?_
      simp
    refine awp_ret ?_
    refine ret_blk ?_
    refine ret_seq ?_
    obtain rfl := oi h
    simp
  have c70 := eqF g59
  refine condF rfl g59 ?_
  refine awp_skip ?_
  refine blk_n ?_
  refine seq_eq ?_
  refine cut 49 0 [(2, .int .i64 0), (3, .int .i64 0), (4, .int .i64 2)] [(Api.Instr.c i1)] ?_ ?_
  · refine st ?_
    simp
  refine awp_ret ?_
  obtain rfl := oi h
  simp
end Go.Proofs.Ythbjlmoaceaeeaa
set_option linter.unusedVariables false
set_option linter.unusedSimpArgs false
set_option maxRecDepth 100000
set_option maxHeartbeats 1000000
namespace Go.Proofs.Ythbjlmoaceaeeaa
open Go Go.Abs
theorem bytecode_known_ok (op1 : Int) (r : Bool) (h : M.bytecode_known op1 = some r) : Pure Try.prog 67 [.int .i64 op1] (.bool r) := by
  rw [M.bytecode_known] at h
  refine pure_of_body Try.func67 (by rfl) (by rfl) (by simp) (by simp) (by simp) ?_
  refine cut 5 0 [(0, .int .i64 op1)] [] ?_ ?_
  · refine st ?_
    simp
  obtain ⟨v2, q3, h⟩ := bs h
  refine cut 5 0 [(2, .bool v2)] [] ?_ ?_
  · refine st ?_
    simp
    have r4 := bytecode_within_ok op1 1 16 v2 q3
    try simp [] at r4
    refine callPure r4 (by simp) rfl ?_
    simp
  refine awp_ret ?_
  obtain rfl := oi h
  simp
end Go.Proofs.Ythbjlmoaceaeeaa
set_option linter.unusedVariables false
set_option linter.unusedSimpArgs false
set_option maxRecDepth 100000
set_option maxHeartbeats 1000000
namespace Go.Proofs.Ythbjlmoaceaeeaa
open Go Go.Abs
theorem bytecode_Targets_1_ok (n1 : Int) (w2 : Api.Fun) (r : Bool) (h : M.bytecode_Targets_1 n1 w2 = some r) : Raw Try.prog 69 [.int .i64 n1, .mptr 0 0] [[.int .i64 w2.Captures, .int .i64 w2.Locals, .int .i64 w2.Depth, .sl (w2.Code.map Api.Instr.c)]] (.bool r) [[.int .i64 w2.Captures, .int .i64 w2.Locals, .int .i64 w2.Depth, .sl (w2.Code.map Api.Instr.c)]] := by
  rw [M.bytecode_Targets_1] at h
  refine raw_of_bodyB Try.func69 (by rfl) (by rfl) (by simp) (by simp) ?_
  refine cut 11 1 [(0, .int .i64 n1), (1, .mptr 0 0)] [(Api.Fun.c w2)] ?_ ?_
  · refine st ?_
    simp
  obtain ⟨n3, q4, h⟩ := bs h
  obtain ⟨q5, q6⟩ := chk_ok q4
  try simp at q5
  try simp at q6
  have c7 := q5; simp only [Rng, inR] at c7
  obtain ⟨v8, q9, h⟩ := bs h
  refine cut 11 1 [(3, .bool (!v8))] [(Api.Fun.c w2)] ?_ ?_
  · refine st ?_
    simp [q5, q6]
    have r10 := bytecode_within_ok n1 0 n3 v8 q9
    try simp [q5, q6] at r10
    refine callPure r10 (by simp) rfl ?_
    simp [q5, q6]
  refine awp_ret ?_
  obtain rfl := oi h
  simp
end Go.Proofs.Ythbjlmoaceaeeaa
set_option linter.unusedVariables false
set_option linter.unusedSimpArgs false
set_option maxRecDepth 100000
set_option maxHeartbeats 1000000
namespace Go.Proofs.Ythbjlmoaceaeeaa
open Go Go.Abs
theorem slices_IndexFunc_int_Targets_1_ok (fuel : Nat) (s1 : (List Int)) (w2 : Api.Fun) (r : Int) (h : M.slices_IndexFunc_int_Targets_1 fuel s1 w2 = some r) : Raw Try.prog 122 [.sl (s1.map (cI .i64)), .fn (.func 69) [] [.mptr 0 0]] [[.int .i64 w2.Captures, .int .i64 w2.Locals, .int .i64 w2.Depth, .sl (w2.Code.map Api.Instr.c)]] (.int .i64 r) [[.int .i64 w2.Captures, .int .i64 w2.Locals, .int .i64 w2.Depth, .sl (w2.Code.map Api.Instr.c)]] := by
  rw [M.slices_IndexFunc_int_Targets_1] at h
  refine raw_of_bodyB Try.func122 (by rfl) (by rfl) (by simp) (by simp) ?_
  refine cut 19 1 [(0, .sl (s1.map (cI .i64))), (1, .fn (.func 69) [] [.mptr 0 0])] [(Api.Fun.c w2)] ?_ ?_
  · refine st ?_
    simp
  refine awp_seq ?_
  refine cut 19 1 [(0, .sl (s1.map (cI .i64))), (1, .fn (.func 69) [] [.mptr 0 0]), (7, .int .i64 (s1.length : Int)), (8, .int .i64 0)] [(Api.Fun.c w2)] ?_ ?_
  · refine st ?_
    simp
  refine awp_block ?_
  obtain ⟨o5, l6, h⟩ := bs h
  refine awp_inv (fun p : Nat × Nat => mkS 19 1 [(0, .sl (s1.map (cI .i64))), (1, .fn (.func 69) [] [.mptr 0 0]), (7, .int .i64 (s1.length : Int)), (8, .int .i64 ((p.2 : Nat) : Int))] [(Api.Fun.c w2)]) (fun p => M.slices_IndexFunc_int_Targets_1_l1 s1 w2 p.1 p.2 = some o5) (fun p => p.1) (fuel, 0) l6 (le_mkS (by simp)) ?_
  rintro ⟨k7, i3⟩ l6
  try dsimp only at l6 ⊢
  cases k7 with
  | zero =>
    rw [M.slices_IndexFunc_int_Targets_1_l1] at l6; cases l6
  | succ k8 =>
    rw [M.slices_IndexFunc_int_Targets_1_l1] at l6
    refine cut 19 1 [(0, .sl (s1.map (cI .i64))), (1, .fn (.func 69) [] [.mptr 0 0]), (7, .int .i64 (s1.length : Int)), (8, .int .i64 ((i3 : Nat) : Int)), (9, .bool (ltI ((i3 : Nat) : Int) (s1.length : Int)))] [(Api.Fun.c w2)] ?_ ?_
    · refine st ?_
      simp
    refine awp_seq ?_
    rcases sp l6 with ⟨g9, l6⟩ | ⟨g9, l6⟩
    · have c10 := ltT g9
      refine condT rfl g9 ?_
      refine factL 0 rfl fun f11 => ?_
      rw [List.length_map] at f11
      refine awp_skip ?_
      refine seq_eq ?_
      refine awp_seq ?_
      refine awp_block ?_
      refine cut 19 1 [(0, .sl (s1.map (cI .i64))), (1, .fn (.func 69) [] [.mptr 0 0]), (5, .int .i64 ((i3 : Nat) : Int)), (7, .int .i64 (s1.length : Int)), (8, .int .i64 ((i3 : Nat) : Int))] [(Api.Fun.c w2)] ?_ ?_
      · refine st ?_
        simp
      obtain ⟨x12, q13, l6⟩ := bs l6
      obtain ⟨v14, q15, l6⟩ := bs l6
      refine cut 19 1 [(0, .sl (s1.map (cI .i64))), (1, .fn (.func 69) [] [.mptr 0 0]), (5, .int .i64 ((i3 : Nat) : Int)), (7, .int .i64 (s1.length : Int)), (8, .int .i64 ((i3 : Nat) : Int)), (16, .bool v14)] [(Api.Fun.c w2)] ?_ ?_
      · refine st ?_
        simp [q13]
        have r18 := (bytecode_Targets_1_ok x12 w2 v14 q15).frame [0] [[.int .i64 w2.Captures, .int .i64 w2.Locals, .int .i64 w2.Depth, .sl (w2.Code.map Api.Instr.c)]] (by simp)
        try simp [q13] at r18
        refine callRaw r18 (by simp [q13]) rfl ?_
        simp [q13]
      rcases sp l6 with ⟨g16, l6⟩ | ⟨g16, l6⟩
      · refine condT rfl g16 ?_
        refine cut 19 1 [(4, .int .i64 ((i3 : Nat) : Int))] [(Api.Fun.c w2)] ?_ ?_
        · refine st ?_
          simp
        refine awp_ret ?_
        refine ret_blk ?_
        refine ret_seq ?_
        replace h := retL l6 h
        refine ret_seq ?_
        refine ret_blk ?_
        refine ret_seq ?_
        obtain rfl := oi h
        simp
      refine condF rfl g16 ?_
      refine awp_skip ?_
      refine blk_n ?_
      refine seq_eq ?_
      have q17 : Rng .i64 (((i3 : Nat) : Int) + 1) := by simp only [Rng, inR]; omega
      try simp at q17
      refine last 19 1 [(0, .sl (s1.map (cI .i64))), (1, .fn (.func 69) [] [.mptr 0 0]), (7, .int .i64 (s1.length : Int)), (8, .int .i64 ((i3 + 1 : Nat) : Int))] [(Api.Fun.c w2)] ?_ fun zz hs => ?_
      · refine st ?_
        simp [q17]
      exact ⟨(k8, i3 + 1), hs, l6, by simp⟩
    have c19 := ltF g9
    refine condF rfl g9 ?_
    refine factL 0 rfl fun f20 => ?_
    rw [List.length_map] at f20
    refine awp_exit ?_
    refine exit_seq ?_
    rcases o5 with o5 | o4
    · cases l6
    have q21 := Sum.inr.inj (Option.some.inj l6)
    replace h := elimR h
    refine exit_seq ?_
    refine exit_blk ?_
    refine seq_le (t := mkS 19 1 [] [(Api.Fun.c w2)]) ?_ (le_mkS (by simp []))
    refine cut 19 1 [(4, .int .i64 (-1))] [(Api.Fun.c w2)] ?_ ?_
    · refine st ?_
      simp
    refine awp_ret ?_
    obtain rfl := oi h
    simp
end Go.Proofs.Ythbjlmoaceaeeaa
set_option linter.unusedVariables false
set_option linter.unusedSimpArgs false
set_option maxRecDepth 100000
set_option maxHeartbeats 1000000
namespace Go.Proofs.Ythbjlmoaceaeeaa
open Go Go.Abs
theorem slices_ContainsFunc_int_Targets_1_ok (fuel : Nat) (s1 : (List Int)) (w2 : Api.Fun) (r : Bool) (h : M.slices_ContainsFunc_int_Targets_1 fuel s1 w2 = some r) : Raw Try.prog 68 [.sl (s1.map (cI .i64)), .fn (.func 69) [] [.mptr 0 0]] [[.int .i64 w2.Captures, .int .i64 w2.Locals, .int .i64 w2.Depth, .sl (w2.Code.map Api.Instr.c)]] (.bool r) [[.int .i64 w2.Captures, .int .i64 w2.Locals, .int .i64 w2.Depth, .sl (w2.Code.map Api.Instr.c)]] := by
  rw [M.slices_ContainsFunc_int_Targets_1] at h
  refine raw_of_bodyB Try.func68 (by rfl) (by rfl) (by simp) (by simp) ?_
  refine cut 9 1 [(0, .sl (s1.map (cI .i64))), (1, .fn (.func 69) [] [.mptr 0 0])] [(Api.Fun.c w2)] ?_ ?_
  · refine st ?_
    simp
  obtain ⟨v3, q4, h⟩ := bs h
  refine cut 9 1 [(4, .bool (leI 0 v3))] [(Api.Fun.c w2)] ?_ ?_
  · refine st ?_
    simp
    have r5 := (slices_IndexFunc_int_Targets_1_ok fuel s1 w2 v3 q4).frame [0] [[.int .i64 w2.Captures, .int .i64 w2.Locals, .int .i64 w2.Depth, .sl (w2.Code.map Api.Instr.c)]] (by simp)
    try simp [] at r5
    refine callRaw r5 (by simp []) rfl ?_
    simp
  refine awp_ret ?_
  obtain rfl := oi h
  simp
end Go.Proofs.Ythbjlmoaceaeeaa
set_option linter.unusedVariables false
set_option linter.unusedSimpArgs false
set_option maxRecDepth 100000
set_option maxHeartbeats 1000000
namespace Go.Proofs.Ythbjlmoaceaeeaa
open Go Go.Abs
theorem bytecode_Targets_ok (fuel : Nat) (f1 : Api.Fun) (at2 : Int) (r : (List Int) × Int) (h : M.bytecode_Targets fuel f1 at2 = some r) : Pure Try.prog 34 [.agg [.int .i64 f1.Captures, .int .i64 f1.Locals, .int .i64 f1.Depth, .sl (f1.Code.map Api.Instr.c)], .int .i64 at2] (.tup [.sl (r.1.map (cI .i64)), .int .i64 r.2]) := by
  rw [M.bytecode_Targets] at h
  refine pure_of_body Try.func34 (by rfl) (by rfl) (by simp) (by simp) (by simp) ?_
  refine cut 69 0 [(1, .int .i64 at2), (2, .mptr 0 0)] [(Api.Fun.c f1)] ?_ ?_
  · refine st ?_
    simp
  refine awp_seq ?_
  obtain ⟨b17, q18, h⟩ := bs h
  refine cut 69 0 [(1, .int .i64 at2), (2, .mptr 0 0), (27, .bool b17)] [(Api.Fun.c f1)] ?_ ?_
  · rcases sp q18 with ⟨g3, q18⟩ | ⟨g3, q18⟩
    · have c4 := ltT g3
      obtain rfl := oi q18
      refine st ?_
      simp [g3]
    have c5 := ltF g3
    rcases sp q18 with ⟨g6, q18⟩ | ⟨g6, q18⟩
    · have c7 := leT g6
      refine factCL 0 3 rfl rfl rfl fun f8 => ?_
      rw [List.length_map] at f8
      obtain rfl := oi q18
      refine st ?_
      simp [g3, g6]
    have c9 := leF g6
    refine factCL 0 3 rfl rfl rfl fun f10 => ?_
    rw [List.length_map] at f10
    obtain ⟨x11, q12, q18⟩ := bs q18
    obtain ⟨q13, q14⟩ := idx_ok q12
    obtain ⟨v15, q16, q18⟩ := bs q18
    obtain rfl := oi q18
    refine st ?_
    simp [g3, g6, q13, q14]
    have r89 := bytecode_known_ok x11.Op v15 q16
    try simp [g3, g6, q13, q14] at r89
    refine callPure r89 (by simp) rfl ?_
    simp [g3, g6, q13, q14]
  rcases sp h with ⟨g19, h⟩ | ⟨g19, h⟩
  · refine condT rfl g19 ?_
    refine cut 69 0 [(4, .osl ⟨1, 3⟩ (([] : List Int).map (cI .i64))), (5, .int .i64 2)] [(Api.Fun.c f1)] ?_ ?_
    · refine st ?_
      simp
    refine awp_ret ?_
    refine ret_seq ?_
    obtain rfl := oi h
    simp
  refine condF rfl g19 ?_
  refine awp_skip ?_
  refine seq_eq ?_
  obtain ⟨x20, q21, h⟩ := bs h
  obtain ⟨q22, q23⟩ := idx_ok q21
  refine cut 69 0 [(1, .int .i64 at2), (2, .mptr 0 0), (6, .mptr 1 0)] [(Api.Fun.c f1), (Api.Instr.c x20)] ?_ ?_
  · refine st ?_
    simp [q22, q23]
  refine cut 69 0 [(1, .int .i64 at2), (2, .mptr 0 0), (6, .mptr 1 0), (7, .osl ⟨1, 3⟩ (([] : List Int).map (cI .i64)))] [(Api.Fun.c f1), (Api.Instr.c x20)] ?_ ?_
  · refine st ?_
    simp
  refine awp_seq ?_
  refine cut 69 0 [(1, .int .i64 at2), (2, .mptr 0 0), (6, .mptr 1 0), (7, .osl ⟨1, 3⟩ (([] : List Int).map (cI .i64))), (34, .int .i64 x20.Op)] [(Api.Fun.c f1), (Api.Instr.c x20)] ?_ ?_
  · refine st ?_
    simp
  refine awp_block ?_
  refine awp_seq ?_
  refine cut 69 0 [(1, .int .i64 at2), (2, .mptr 0 0), (6, .mptr 1 0), (7, .osl ⟨1, 3⟩ (([] : List Int).map (cI .i64))), (34, .int .i64 x20.Op), (38, .bool (eqI x20.Op 9))] [(Api.Fun.c f1), (Api.Instr.c x20)] ?_ ?_
  · refine st ?_
    simp
  rcases sp h with ⟨g24, h⟩ | ⟨g24, h⟩
  · have c25 := eqT g24
    refine condT rfl g24 ?_
    refine awp_skip ?_
    refine seq_eq ?_
    refine condT rfl (by simp [g24]) ?_
    refine cut 69 0 [(4, .osl ⟨1, 3⟩ (([] : List Int).map (cI .i64))), (5, .int .i64 0)] [(Api.Fun.c f1), (Api.Instr.c x20)] ?_ ?_
    · refine st ?_
      simp
    refine awp_ret ?_
    refine ret_blk ?_
    refine ret_seq ?_
    obtain rfl := oi h
    simp
  have c26 := eqF g24
  refine condF rfl g24 ?_
  refine last 69 0 [(1, .int .i64 at2), (2, .mptr 0 0), (6, .mptr 1 0), (7, .osl ⟨1, 3⟩ (([] : List Int).map (cI .i64))), (34, .int .i64 x20.Op), (38, .bool (eqI x20.Op 16))] [(Api.Fun.c f1), (Api.Instr.c x20)] ?_ fun zz hs => ?_
  · refine st ?_
    simp
  refine seq_le ?_ hs
  rcases sp h with ⟨g27, h⟩ | ⟨g27, h⟩
  · have c28 := eqT g27
    refine condT rfl g27 ?_
    refine cut 69 0 [(4, .osl ⟨1, 3⟩ (([] : List Int).map (cI .i64))), (5, .int .i64 0)] [(Api.Fun.c f1), (Api.Instr.c x20)] ?_ ?_
    · refine st ?_
      simp
    refine awp_ret ?_
    refine ret_blk ?_
    refine ret_seq ?_
    obtain rfl := oi h
    simp
  have c29 := eqF g27
  refine condF rfl g27 ?_
  refine cut 69 0 [(1, .int .i64 at2), (2, .mptr 0 0), (6, .mptr 1 0), (7, .osl ⟨1, 3⟩ (([] : List Int).map (cI .i64))), (34, .int .i64 x20.Op), (41, .bool (eqI x20.Op 14))] [(Api.Fun.c f1), (Api.Instr.c x20)] ?_ ?_
  · refine st ?_
    simp
  rcases sp h with ⟨g30, h⟩ | ⟨g30, h⟩
  · have c31 := eqT g30
    refine condT rfl g30 ?_
    refine last 69 0 [(2, .mptr 0 0), (7, .osl ⟨1, 3⟩ ([x20.A].map (cI .i64)))] [(Api.Fun.c f1), (Api.Instr.c x20)] ?_ fun zz hs => ?_
    · refine st ?_
      simp
    refine blk_n ?_
    refine seq_le ?_ hs
    refine awp_seq ?_
    obtain ⟨v32, q33, h⟩ := bs h
    refine cut 69 0 [(7, .osl ⟨1, 3⟩ ([x20.A].map (cI .i64))), (67, .bool v32)] [(Api.Fun.c f1), (Api.Instr.c x20)] ?_ ?_
    · refine st ?_
      simp
      have r35 := (slices_ContainsFunc_int_Targets_1_ok fuel [x20.A] f1 v32 q33).frame [0] [[.int .i64 f1.Captures, .int .i64 f1.Locals, .int .i64 f1.Depth, .sl (f1.Code.map Api.Instr.c)], [.int .i64 x20.Op, .int .i64 x20.A, .int .i64 x20.B]] (by simp)
      try simp [] at r35
      refine callRaw r35 (by simp []) rfl ?_
      simp
    rcases sp h with ⟨g34, h⟩ | ⟨g34, h⟩
    · refine condT rfl g34 ?_
      refine cut 69 0 [(4, .osl ⟨1, 3⟩ (([] : List Int).map (cI .i64))), (5, .int .i64 24)] [(Api.Fun.c f1), (Api.Instr.c x20)] ?_ ?_
      · refine st ?_
        simp
      refine awp_ret ?_
      refine ret_seq ?_
      obtain rfl := oi h
      simp
    refine condF rfl g34 ?_
    refine awp_skip ?_
    refine seq_eq ?_
    refine cut 69 0 [(4, .osl ⟨1, 3⟩ ([x20.A].map (cI .i64))), (5, .int .i64 0)] [(Api.Fun.c f1), (Api.Instr.c x20)] ?_ ?_
    · refine st ?_
      simp
    refine awp_ret ?_
    obtain rfl := oi h
    simp
  have c36 := eqF g30
  refine condF rfl g30 ?_
  refine cut 69 0 [(1, .int .i64 at2), (2, .mptr 0 0), (6, .mptr 1 0), (7, .osl ⟨1, 3⟩ (([] : List Int).map (cI .i64))), (46, .bool (eqI x20.Op 13))] [(Api.Fun.c f1), (Api.Instr.c x20)] ?_ ?_
  · refine st ?_
    simp
  rcases sp h with ⟨g37, h⟩ | ⟨g37, h⟩
  · have c38 := eqT g37
    refine condT rfl g37 ?_
    refine awp_seq ?_
    obtain ⟨v39, q40, h⟩ := bs h
    refine cut 69 0 [(1, .int .i64 at2), (2, .mptr 0 0), (6, .mptr 1 0), (7, .osl ⟨1, 3⟩ (([] : List Int).map (cI .i64))), (51, .bool (!v39))] [(Api.Fun.c f1), (Api.Instr.c x20)] ?_ ?_
    · refine st ?_
      simp
      have r78 := bytecode_within_ok x20.B 1 1000 v39 q40
      try simp [] at r78
      refine callPure r78 (by simp) rfl ?_
      simp
    rcases sp h with ⟨g41, h⟩ | ⟨g41, h⟩
    · have g42 := notT g41
      refine condT rfl g41 ?_
      refine cut 69 0 [(4, .osl ⟨1, 3⟩ (([] : List Int).map (cI .i64))), (5, .int .i64 24)] [(Api.Fun.c f1), (Api.Instr.c x20)] ?_ ?_
      · refine st ?_
        simp
      refine awp_ret ?_
      refine ret_seq ?_
      refine ret_blk ?_
      refine ret_seq ?_
      obtain rfl := oi h
      simp
    have g43 := notF g41
    refine condF rfl g41 ?_
    refine awp_skip ?_
    refine seq_eq ?_
    refine cut 69 0 [(1, .int .i64 at2), (2, .mptr 0 0), (7, .osl ⟨1, 3⟩ (([] : List Int).map (cI .i64))), (53, .int .i64 x20.B), (54, .int .i64 0)] [(Api.Fun.c f1), (Api.Instr.c x20)] ?_ ?_
    · refine st ?_
      simp
    refine awp_block ?_
    obtain ⟨o46, l47, h⟩ := bs h
    refine awp_inv (fun p : Nat × (List Int) × Int => mkS 69 0 [(1, .int .i64 at2), (2, .mptr 0 0), (7, .osl ⟨1, 3⟩ (p.2.1.map (cI .i64))), (53, .int .i64 x20.B), (54, .int .i64 p.2.2)] [(Api.Fun.c f1), (Api.Instr.c x20)]) (fun p => M.bytecode_Targets_l1 at2 x20 p.1 p.2.1 p.2.2 = some o46 ∧ 0 ≤ p.2.2) (fun p => p.1) (fuel, ([] : List Int), 0) ⟨l47, by (try dsimp only); omega⟩ (le_mkS (by simp)) ?_
    rintro ⟨k49, out44, i45⟩ ⟨l47, c48⟩
    try dsimp only at l47 c48 ⊢
    cases k49 with
    | zero =>
      rw [M.bytecode_Targets_l1] at l47; cases l47
    | succ k50 =>
      rw [M.bytecode_Targets_l1] at l47
      refine cut 69 0 [(1, .int .i64 at2), (2, .mptr 0 0), (7, .osl ⟨1, 3⟩ (out44.map (cI .i64))), (53, .int .i64 x20.B), (54, .int .i64 i45), (55, .bool (ltI i45 x20.B))] [(Api.Fun.c f1), (Api.Instr.c x20)] ?_ ?_
      · refine st ?_
        simp
      refine awp_seq ?_
      rcases sp l47 with ⟨g51, l47⟩ | ⟨g51, l47⟩
      · have c52 := ltT g51
        refine condT rfl g51 ?_
        refine awp_skip ?_
        refine seq_eq ?_
        refine awp_seq ?_
        refine awp_block ?_
        refine cut 69 0 [(1, .int .i64 at2), (2, .mptr 0 0), (7, .osl ⟨1, 3⟩ (out44.map (cI .i64))), (8, .int .i64 i45), (53, .int .i64 x20.B), (54, .int .i64 i45)] [(Api.Fun.c f1), (Api.Instr.c x20)] ?_ ?_
        · refine st ?_
          simp
        obtain ⟨n53, q54, l47⟩ := bs l47
        obtain ⟨q55, q56⟩ := chk_ok q54
        try simp at q55
        try simp at q56
        have c57 := q55; simp only [Rng, inR] at c57
        obtain ⟨n58, q59, l47⟩ := bs l47
        obtain ⟨q60, q61⟩ := chk_ok q59
        try simp at q60
        try simp at q61
        have c62 := q60; simp only [Rng, inR] at c62
        obtain ⟨l63, q64, l47⟩ := bs l47
        obtain ⟨q65, q66⟩ := app_ok q64
        try simp at q65
        refine last 69 0 [(1, .int .i64 at2), (2, .mptr 0 0), (7, .osl ⟨1, 3⟩ (l63.map (cI .i64))), (53, .int .i64 x20.B), (54, .int .i64 i45)] [(Api.Fun.c f1), (Api.Instr.c x20)] ?_ fun zz hs => ?_
        · refine st ?_
          simp [q55, q56, q60, q61, q65, q66]
        refine blk_n ?_
        refine seq_le ?_ hs
        obtain ⟨n67, q68, l47⟩ := bs l47
        obtain ⟨q69, q70⟩ := chk_ok q68
        try simp at q69
        try simp at q70
        have c71 := q69; simp only [Rng, inR] at c71
        refine last 69 0 [(1, .int .i64 at2), (2, .mptr 0 0), (7, .osl ⟨1, 3⟩ (l63.map (cI .i64))), (53, .int .i64 x20.B), (54, .int .i64 n67)] [(Api.Fun.c f1), (Api.Instr.c x20)] ?_ fun zz hs => ?_
        · refine st ?_
          simp [q69, q70]
        exact ⟨(k50, l63, n67), hs, ⟨l47, by (try dsimp only); (try unfold maxI); (first | omega | (split <;> omega))⟩, by simp⟩
      have c72 := ltF g51
      refine condF rfl g51 ?_
      refine awp_exit ?_
      refine exit_seq ?_
      have q73 := Option.some.inj l47
      have q73 := q73.symm
      refine exit_seq ?_
      refine exit_blk ?_
      refine blk_n ?_
      refine seq_le (t := mkS 69 0 [(2, .mptr 0 0), (7, .osl ⟨1, 3⟩ (o46.map (cI .i64)))] [(Api.Fun.c f1), (Api.Instr.c x20)]) ?_ (le_mkS (by simp [q73]))
      refine awp_seq ?_
      obtain ⟨v74, q75, h⟩ := bs h
      refine cut 69 0 [(7, .osl ⟨1, 3⟩ (o46.map (cI .i64))), (67, .bool v74)] [(Api.Fun.c f1), (Api.Instr.c x20)] ?_ ?_
      · refine st ?_
        simp
        have r77 := (slices_ContainsFunc_int_Targets_1_ok fuel o46 f1 v74 q75).frame [0] [[.int .i64 f1.Captures, .int .i64 f1.Locals, .int .i64 f1.Depth, .sl (f1.Code.map Api.Instr.c)], [.int .i64 x20.Op, .int .i64 x20.A, .int .i64 x20.B]] (by simp)
        try simp [] at r77
        refine callRaw r77 (by simp []) rfl ?_
        simp
      rcases sp h with ⟨g76, h⟩ | ⟨g76, h⟩
      · refine condT rfl g76 ?_
        refine cut 69 0 [(4, .osl ⟨1, 3⟩ (([] : List Int).map (cI .i64))), (5, .int .i64 24)] [(Api.Fun.c f1), (Api.Instr.c x20)] ?_ ?_
        · refine st ?_
          simp
        refine awp_ret ?_
        refine ret_seq ?_
        obtain rfl := oi h
        simp
      refine condF rfl g76 ?_
      refine awp_skip ?_
      refine seq_eq ?_
      refine cut 69 0 [(4, .osl ⟨1, 3⟩ (o46.map (cI .i64))), (5, .int .i64 0)] [(Api.Fun.c f1), (Api.Instr.c x20)] ?_ ?_
      · refine st ?_
        simp
      refine awp_ret ?_
      obtain rfl := oi h
      simp
  have c79 := eqF g37
  refine condF rfl g37 ?_
  obtain ⟨n80, q81, h⟩ := bs h
  obtain ⟨q82, q83⟩ := chk_ok q81
  try simp at q82
  try simp at q83
  have c84 := q82; simp only [Rng, inR] at c84
  refine last 69 0 [(2, .mptr 0 0), (7, .osl ⟨1, 3⟩ ([n80].map (cI .i64)))] [(Api.Fun.c f1), (Api.Instr.c x20)] ?_ fun zz hs => ?_
  · refine st ?_
    simp [q82, q83]
  refine blk_n ?_
  refine seq_le ?_ hs
  refine awp_seq ?_
  obtain ⟨v85, q86, h⟩ := bs h
  refine cut 69 0 [(7, .osl ⟨1, 3⟩ ([n80].map (cI .i64))), (67, .bool v85)] [(Api.Fun.c f1), (Api.Instr.c x20)] ?_ ?_
  · refine st ?_
    simp
    have r88 := (slices_ContainsFunc_int_Targets_1_ok fuel [n80] f1 v85 q86).frame [0] [[.int .i64 f1.Captures, .int .i64 f1.Locals, .int .i64 f1.Depth, .sl (f1.Code.map Api.Instr.c)], [.int .i64 x20.Op, .int .i64 x20.A, .int .i64 x20.B]] (by simp)
    try simp [] at r88
    refine callRaw r88 (by simp []) rfl ?_
    simp
  rcases sp h with ⟨g87, h⟩ | ⟨g87, h⟩
  · refine condT rfl g87 ?_
    refine cut 69 0 [(4, .osl ⟨1, 3⟩ (([] : List Int).map (cI .i64))), (5, .int .i64 24)] [(Api.Fun.c f1), (Api.Instr.c x20)] ?_ ?_
    · refine st ?_
      simp
    refine awp_ret ?_
    refine ret_seq ?_
    obtain rfl := oi h
    simp
  refine condF rfl g87 ?_
  refine awp_skip ?_
  refine seq_eq ?_
  refine cut 69 0 [(4, .osl ⟨1, 3⟩ ([n80].map (cI .i64))), (5, .int .i64 0)] [(Api.Fun.c f1), (Api.Instr.c x20)] ?_ ?_
  · refine st ?_
    simp
  refine awp_ret ?_
  obtain rfl := oi h
  simp
end Go.Proofs.Ythbjlmoaceaeeaa
set_option linter.unusedVariables false
set_option linter.unusedSimpArgs false
set_option maxRecDepth 100000
set_option maxHeartbeats 1000000
namespace Go.Proofs.Ythbjlmoaceaeeaa
open Go Go.Abs
theorem strings_Builder_WriteByte_ok (c1 : UInt8) (b2 : (List UInt8)) (r : (List UInt8)) (h : M.strings_Builder_WriteByte c1 b2 = some r) : Raw Try.prog 72 [.mptr 0 0, .int .u8 (c1.toNat : Int)] [[.baddr 119 0, .osl ⟨1, 5⟩ (b2.map cU)]] (.nilif) [[.baddr 119 0, .osl ⟨1, 5⟩ (r.map cU)]] := by
  rw [M.strings_Builder_WriteByte] at h
  refine raw_of_bodyB Try.func72 (by rfl) (by rfl) (by simp) (by simp) ?_
  refine cut 17 1 [(0, .mptr 0 0), (1, .int .u8 (c1.toNat : Int))] [[.baddr 119 0, .osl ⟨1, 5⟩ (b2.map cU)]] ?_ ?_
  · refine st ?_
    simp
  obtain ⟨v3, q4, h⟩ := bs h
  refine cut 17 1 [(0, .mptr 0 0), (1, .int .u8 (c1.toNat : Int))] [[.baddr 119 0, .osl ⟨1, 5⟩ (b2.map cU)]] ?_ ?_
  · refine st ?_
    simp
    have r9 := (strings_Builder_copyCheck_ok b2 v3 q4).frame [0] [[.baddr 119 0, .osl ⟨1, 5⟩ (b2.map cU)]] (by simp)
    try simp [] at r9
    refine callRaw r9 (by simp []) rfl ?_
    simp
  obtain ⟨l5, q6, h⟩ := bs h
  obtain ⟨q7, q8⟩ := app_ok q6
  try simp at q7
  refine cut 17 1 [] [[.baddr 119 0, .osl ⟨1, 5⟩ (l5.map cU)]] ?_ ?_
  · refine st ?_
    simp [q7, q8]
  refine cut 17 1 [(4, .nilif)] [[.baddr 119 0, .osl ⟨1, 5⟩ (l5.map cU)]] ?_ ?_
  · refine st ?_
    simp
  refine awp_ret ?_
  obtain rfl := oi h
  simp
end Go.Proofs.Ythbjlmoaceaeeaa
set_option linter.unusedVariables false
set_option linter.unusedSimpArgs false
set_option maxRecDepth 100000
set_option maxHeartbeats 1000000
namespace Go.Proofs.Ythbjlmoaceaeeaa
open Go Go.Abs
theorem strings_Builder_WriteString_ok (s1 : (List UInt8)) (b2 : (List UInt8)) (r : Int × (List UInt8)) (h : M.strings_Builder_WriteString s1 b2 = some r) : Raw Try.prog 73 [.mptr 0 0, .str s1] [[.baddr 119 0, .osl ⟨1, 5⟩ (b2.map cU)]] (.tup [.int .i64 r.1, .nilif]) [[.baddr 119 0, .osl ⟨1, 5⟩ (r.2.map cU)]] := by
  rw [M.strings_Builder_WriteString] at h
  refine raw_of_bodyB Try.func73 (by rfl) (by rfl) (by simp) (by simp) ?_
  refine cut 19 1 [(0, .mptr 0 0), (1, .str s1)] [[.baddr 119 0, .osl ⟨1, 5⟩ (b2.map cU)]] ?_ ?_
  · refine st ?_
    simp
  obtain ⟨v3, q4, h⟩ := bs h
  refine cut 19 1 [(0, .mptr 0 0), (1, .str s1)] [[.baddr 119 0, .osl ⟨1, 5⟩ (b2.map cU)]] ?_ ?_
  · refine st ?_
    simp
    have r9 := (strings_Builder_copyCheck_ok b2 v3 q4).frame [0] [[.baddr 119 0, .osl ⟨1, 5⟩ (b2.map cU)]] (by simp)
    try simp [] at r9
    refine callRaw r9 (by simp []) rfl ?_
    simp
  obtain ⟨l5, q6, h⟩ := bs h
  obtain ⟨q7, q8⟩ := app_ok q6
  try simp at q7
  refine cut 19 1 [(1, .str s1)] [[.baddr 119 0, .osl ⟨1, 5⟩ (l5.map cU)]] ?_ ?_
  · refine st ?_
    simp [q7, q8]
  refine cut 19 1 [(4, .int .i64 (s1.length : Int)), (5, .nilif)] [[.baddr 119 0, .osl ⟨1, 5⟩ (l5.map cU)]] ?_ ?_
  · refine st ?_
    simp
  refine awp_ret ?_
  obtain rfl := oi h
  simp
end Go.Proofs.Ythbjlmoaceaeeaa
set_option linter.unusedVariables false
set_option linter.unusedSimpArgs false
set_option maxRecDepth 100000
set_option maxHeartbeats 1000000
namespace Go.Proofs.Ythbjlmoaceaeeaa
open Go Go.Abs
theorem lexer_visible_ok (c1 : UInt8) (r : Bool) (h : M.lexer_visible c1 = some r) : Pure Try.prog 74 [.int .u8 (c1.toNat : Int)] (.bool r) := by
  rw [M.lexer_visible] at h
  refine pure_of_body Try.func74 (by rfl) (by rfl) (by simp) (by simp) (by simp) ?_
  refine cut 9 0 [(0, .int .u8 (c1.toNat : Int))] [] ?_ ?_
  · refine st ?_
    simp
  refine cut 9 0 [(2, .bool ((leI 32 (c1.toNat : Int)) && (leI (c1.toNat : Int) 126)))] [] ?_ ?_
  · rcases tf (leI 32 (c1.toNat : Int)) with g2 | g2
    · have c3 := leT g2
      refine st ?_
      simp [g2]
    have c4 := leF g2
    refine st ?_
    simp [g2]
  refine awp_ret ?_
  obtain rfl := oi h
  simp
end Go.Proofs.Ythbjlmoaceaeeaa
set_option linter.unusedVariables false
set_option linter.unusedSimpArgs false
set_option maxRecDepth 100000
set_option maxHeartbeats 1000000
namespace Go.Proofs.Ythbjlmoaceaeeaa
open Go Go.Abs
theorem lexer_Quote_ok (fuel : Nat) (s1 : (List UInt8)) (r : (List UInt8) × Int) (h : M.lexer_Quote fuel s1 = some r) : Pure Try.prog 39 [.str s1] (.tup [.str r.1, .int .i64 r.2]) := by
  rw [M.lexer_Quote] at h
  refine pure_of_body Try.func39 (by rfl) (by rfl) (by simp) (by simp) (by simp) ?_
  refine cut 42 0 [(0, .str s1)] [] ?_ ?_
  · refine st ?_
    simp
  refine awp_seq ?_
  refine cut 42 0 [(0, .str s1), (9, .bool (ltI 16384 (s1.length : Int)))] [] ?_ ?_
  · refine st ?_
    simp
  rcases sp h with ⟨g2, h⟩ | ⟨g2, h⟩
  · have c3 := ltT g2
    refine condT rfl g2 ?_
    refine factS 0 rfl fun f4 => ?_
    refine cut 42 0 [(2, .str ([] : List UInt8)), (3, .int .i64 5)] [] ?_ ?_
    · refine st ?_
      simp
    refine awp_ret ?_
    refine ret_seq ?_
    obtain rfl := oi h
    simp
  have c5 := ltF g2
  refine condF rfl g2 ?_
  refine factS 0 rfl fun f6 => ?_
  refine awp_skip ?_
  refine seq_eq ?_
  refine cut 42 0 [(0, .str s1), (4, .mptr 0 0)] [[.baddr 119 0, .osl ⟨1, 5⟩ (([] : List UInt8).map cU)]] ?_ ?_
  · refine st ?_
    simp
  obtain ⟨v7, q8, h⟩ := bs h
  refine cut 42 0 [(0, .str s1), (4, .mptr 0 0)] [[.baddr 119 0, .osl ⟨1, 5⟩ (v7.map cU)]] ?_ ?_
  · refine st ?_
    simp
    have r60 := (strings_Builder_WriteByte_ok (34 : UInt8) ([] : List UInt8) v7 q8).frame [0] [[.baddr 119 0, .osl ⟨1, 5⟩ (([] : List UInt8).map cU)]] (by simp)
    try simp [] at r60
    refine callRaw r60 (by simp []) rfl ?_
    simp
  refine awp_seq ?_
  refine cut 42 0 [(0, .str s1), (4, .mptr 0 0), (12, .int .i64 (s1.length : Int)), (13, .int .i64 0)] [[.baddr 119 0, .osl ⟨1, 5⟩ (v7.map cU)]] ?_ ?_
  · refine st ?_
    simp
  refine awp_block ?_
  obtain ⟨o12, l13, h⟩ := bs h
  refine awp_inv (fun p : Nat × (List UInt8) × Nat => mkS 42 0 [(0, .str s1), (4, .mptr 0 0), (12, .int .i64 (s1.length : Int)), (13, .int .i64 ((p.2.2 : Nat) : Int))] [[.baddr 119 0, .osl ⟨1, 5⟩ (p.2.1.map cU)]]) (fun p => M.lexer_Quote_l1 s1 p.1 p.2.1 p.2.2 = some o12) (fun p => p.1) (fuel, v7, 0) l13 (le_mkS (by simp)) ?_
  rintro ⟨k14, buf9, i10⟩ l13
  try dsimp only at l13 ⊢
  cases k14 with
  | zero =>
    rw [M.lexer_Quote_l1] at l13; cases l13
  | succ k15 =>
    rw [M.lexer_Quote_l1] at l13
    refine cut 42 0 [(0, .str s1), (4, .mptr 0 0), (12, .int .i64 (s1.length : Int)), (13, .int .i64 ((i10 : Nat) : Int)), (14, .bool (ltI ((i10 : Nat) : Int) (s1.length : Int)))] [[.baddr 119 0, .osl ⟨1, 5⟩ (buf9.map cU)]] ?_ ?_
    · refine st ?_
      simp
    refine awp_seq ?_
    rcases sp l13 with ⟨g16, l13⟩ | ⟨g16, l13⟩
    · have c17 := ltT g16
      refine condT rfl g16 ?_
      refine awp_skip ?_
      refine seq_eq ?_
      refine awp_seq ?_
      refine awp_block ?_
      refine cut 42 0 [(0, .str s1), (4, .mptr 0 0), (5, .int .i64 ((i10 : Nat) : Int)), (12, .int .i64 (s1.length : Int)), (13, .int .i64 ((i10 : Nat) : Int))] [[.baddr 119 0, .osl ⟨1, 5⟩ (buf9.map cU)]] ?_ ?_
      · refine st ?_
        simp
      obtain ⟨c18, q19, l13⟩ := bs l13
      refine cut 42 0 [(0, .str s1), (4, .mptr 0 0), (6, .int .u8 (c18.toNat : Int)), (12, .int .i64 (s1.length : Int)), (13, .int .i64 ((i10 : Nat) : Int))] [[.baddr 119 0, .osl ⟨1, 5⟩ (buf9.map cU)]] ?_ ?_
      · refine st ?_
        simp [q19]
      refine awp_block ?_
      refine cut 42 0 [(0, .str s1), (4, .mptr 0 0), (6, .int .u8 (c18.toNat : Int)), (12, .int .i64 (s1.length : Int)), (13, .int .i64 ((i10 : Nat) : Int)), (21, .bool (eqI (c18.toNat : Int) 10))] [[.baddr 119 0, .osl ⟨1, 5⟩ (buf9.map cU)]] ?_ ?_
      · refine st ?_
        simp
      rcases sp l13 with ⟨g20, l13⟩ | ⟨g20, l13⟩
      · have c21 := eqT g20
        refine condT rfl g20 ?_
        obtain ⟨v22, q23, l13⟩ := bs l13
        refine last 42 0 [(0, .str s1), (4, .mptr 0 0), (12, .int .i64 (s1.length : Int)), (13, .int .i64 ((i10 : Nat) : Int))] [[.baddr 119 0, .osl ⟨1, 5⟩ (v22.2.map cU)]] ?_ fun zz hs => ?_
        · refine st ?_
          simp
          have r25 := (strings_Builder_WriteString_ok [92, 110] buf9 v22 q23).frame [0] [[.baddr 119 0, .osl ⟨1, 5⟩ (buf9.map cU)]] (by simp)
          try simp [] at r25
          refine callRaw r25 (by simp []) rfl ?_
          simp
        refine blk_n ?_
        refine blk_n ?_
        refine seq_le ?_ hs
        have q24 : Rng .i64 (((i10 : Nat) : Int) + 1) := by simp only [Rng, inR]; omega
        try simp at q24
        refine last 42 0 [(0, .str s1), (4, .mptr 0 0), (12, .int .i64 (s1.length : Int)), (13, .int .i64 ((i10 + 1 : Nat) : Int))] [[.baddr 119 0, .osl ⟨1, 5⟩ (v22.2.map cU)]] ?_ fun zz hs => ?_
        · refine st ?_
          simp [q24]
        exact ⟨(k15, v22.2, i10 + 1), hs, l13, by simp⟩
      have c26 := eqF g20
      refine condF rfl g20 ?_
      obtain ⟨v27, q28, l13⟩ := bs l13
      refine cut 42 0 [(0, .str s1), (4, .mptr 0 0), (6, .int .u8 (c18.toNat : Int)), (12, .int .i64 (s1.length : Int)), (13, .int .i64 ((i10 : Nat) : Int)), (25, .bool (!v27))] [[.baddr 119 0, .osl ⟨1, 5⟩ (buf9.map cU)]] ?_ ?_
      · refine st ?_
        simp
        have r51 := lexer_visible_ok c18 v27 q28
        try simp [] at r51
        refine callPure r51 (by simp) rfl ?_
        simp
      rcases sp l13 with ⟨g29, l13⟩ | ⟨g29, l13⟩
      · have g30 := notT g29
        refine condT rfl g29 ?_
        refine cut 42 0 [(2, .str ([] : List UInt8)), (3, .int .i64 3)] [[.baddr 119 0, .osl ⟨1, 5⟩ (buf9.map cU)]] ?_ ?_
        · refine st ?_
          simp
        refine awp_ret ?_
        refine ret_blk ?_
        refine ret_blk ?_
        refine ret_seq ?_
        replace h := retL l13 h
        refine ret_seq ?_
        refine ret_blk ?_
        refine ret_seq ?_
        obtain rfl := oi h
        simp
      have g31 := notF g29
      refine condF rfl g29 ?_
      refine cut 42 0 [(0, .str s1), (4, .mptr 0 0), (6, .int .u8 (c18.toNat : Int)), (12, .int .i64 (s1.length : Int)), (13, .int .i64 ((i10 : Nat) : Int)), (29, .bool ((eqI (c18.toNat : Int) 34) || (eqI (c18.toNat : Int) 92)))] [[.baddr 119 0, .osl ⟨1, 5⟩ (buf9.map cU)]] ?_ ?_
      · rcases tf (eqI (c18.toNat : Int) 34) with g32 | g32
        · have c33 := eqT g32
          refine st ?_
          simp [g32]
        have c34 := eqF g32
        refine st ?_
        simp [g32]
      rcases sp l13 with ⟨g35, l13⟩ | ⟨g35, l13⟩
      · refine condT rfl g35 ?_
        obtain ⟨v36, q37, l13⟩ := bs l13
        refine cut 42 0 [(0, .str s1), (4, .mptr 0 0), (6, .int .u8 (c18.toNat : Int)), (12, .int .i64 (s1.length : Int)), (13, .int .i64 ((i10 : Nat) : Int))] [[.baddr 119 0, .osl ⟨1, 5⟩ (v36.map cU)]] ?_ ?_
        · refine st ?_
          simp
          have r42 := (strings_Builder_WriteByte_ok (92 : UInt8) buf9 v36 q37).frame [0] [[.baddr 119 0, .osl ⟨1, 5⟩ (buf9.map cU)]] (by simp)
          try simp [] at r42
          refine callRaw r42 (by simp []) rfl ?_
          simp
        obtain ⟨v38, q39, l13⟩ := bs l13
        refine last 42 0 [(0, .str s1), (4, .mptr 0 0), (12, .int .i64 (s1.length : Int)), (13, .int .i64 ((i10 : Nat) : Int))] [[.baddr 119 0, .osl ⟨1, 5⟩ (v38.map cU)]] ?_ fun zz hs => ?_
        · refine st ?_
          simp
          have r41 := (strings_Builder_WriteByte_ok c18 v36 v38 q39).frame [0] [[.baddr 119 0, .osl ⟨1, 5⟩ (v36.map cU)]] (by simp)
          try simp [] at r41
          refine callRaw r41 (by simp []) rfl ?_
          simp
        refine blk_n ?_
        refine blk_n ?_
        refine seq_le ?_ hs
        have q40 : Rng .i64 (((i10 : Nat) : Int) + 1) := by simp only [Rng, inR]; omega
        try simp at q40
        refine last 42 0 [(0, .str s1), (4, .mptr 0 0), (12, .int .i64 (s1.length : Int)), (13, .int .i64 ((i10 + 1 : Nat) : Int))] [[.baddr 119 0, .osl ⟨1, 5⟩ (v38.map cU)]] ?_ fun zz hs => ?_
        · refine st ?_
          simp [q40]
        exact ⟨(k15, v38, i10 + 1), hs, l13, by simp⟩
      obtain ⟨g43, g44⟩ := orF g35
      have c45 := eqF g43
      have c46 := eqF g44
      refine condF rfl g35 ?_
      obtain ⟨v47, q48, l13⟩ := bs l13
      refine last 42 0 [(0, .str s1), (4, .mptr 0 0), (12, .int .i64 (s1.length : Int)), (13, .int .i64 ((i10 : Nat) : Int))] [[.baddr 119 0, .osl ⟨1, 5⟩ (v47.map cU)]] ?_ fun zz hs => ?_
      · refine st ?_
        simp
        have r50 := (strings_Builder_WriteByte_ok c18 buf9 v47 q48).frame [0] [[.baddr 119 0, .osl ⟨1, 5⟩ (buf9.map cU)]] (by simp)
        try simp [] at r50
        refine callRaw r50 (by simp []) rfl ?_
        simp
      refine blk_n ?_
      refine blk_n ?_
      refine seq_le ?_ hs
      have q49 : Rng .i64 (((i10 : Nat) : Int) + 1) := by simp only [Rng, inR]; omega
      try simp at q49
      refine last 42 0 [(0, .str s1), (4, .mptr 0 0), (12, .int .i64 (s1.length : Int)), (13, .int .i64 ((i10 + 1 : Nat) : Int))] [[.baddr 119 0, .osl ⟨1, 5⟩ (v47.map cU)]] ?_ fun zz hs => ?_
      · refine st ?_
        simp [q49]
      exact ⟨(k15, v47, i10 + 1), hs, l13, by simp⟩
    have c52 := ltF g16
    refine condF rfl g16 ?_
    refine awp_exit ?_
    refine exit_seq ?_
    rcases o12 with o12 | o11
    · cases l13
    have q53 := Sum.inr.inj (Option.some.inj l13)
    replace h := elimR h
    have q53 := q53.symm
    refine exit_seq ?_
    refine exit_blk ?_
    refine seq_le (t := mkS 42 0 [(4, .mptr 0 0)] [[.baddr 119 0, .osl ⟨1, 5⟩ (o11.map cU)]]) ?_ (le_mkS (by simp [q53]))
    obtain ⟨v54, q55, h⟩ := bs h
    refine cut 42 0 [(4, .mptr 0 0)] [[.baddr 119 0, .osl ⟨1, 5⟩ (v54.map cU)]] ?_ ?_
    · refine st ?_
      simp
      have r59 := (strings_Builder_WriteByte_ok (34 : UInt8) o11 v54 q55).frame [0] [[.baddr 119 0, .osl ⟨1, 5⟩ (o11.map cU)]] (by simp)
      try simp [] at r59
      refine callRaw r59 (by simp []) rfl ?_
      simp
    obtain ⟨v56, q57, h⟩ := bs h
    refine cut 42 0 [(2, .str v56), (3, .int .i64 0)] [[.baddr 119 0, .osl ⟨1, 5⟩ (v54.map cU)]] ?_ ?_
    · refine st ?_
      simp
      have r58 := (strings_Builder_String_ok v54 v56 q57).frame [0] [[.baddr 119 0, .osl ⟨1, 5⟩ (v54.map cU)]] (by simp)
      try simp [] at r58
      refine callRaw r58 (by simp []) rfl ?_
      simp
    refine awp_ret ?_
    obtain rfl := oi h
    simp
end Go.Proofs.Ythbjlmoaceaeeaa
set_option linter.unusedVariables false
set_option linter.unusedSimpArgs false
set_option maxRecDepth 100000
set_option maxHeartbeats 1000000
namespace Go.Proofs.Ythbjlmoaceaeeaa
open Go Go.Abs
theorem bytecode_quoted_ok (fuel : Nat) (s1 : (List UInt8)) (r : Bool) (h : M.bytecode_quoted fuel s1 = some r) : Pure Try.prog 56 [.str s1] (.bool r) := by
  rw [M.bytecode_quoted] at h
  refine pure_of_body Try.func56 (by rfl) (by rfl) (by simp) (by simp) (by simp) ?_
  refine cut 12 0 [(0, .str s1)] [] ?_ ?_
  · refine st ?_
    simp
  obtain ⟨v2, q3, h⟩ := bs h
  refine cut 12 0 [(4, .int .i64 v2.2)] [] ?_ ?_
  · refine st ?_
    simp
    have r4 := lexer_Quote_ok fuel s1 v2 q3
    try simp [] at r4
    refine callPure r4 (by simp) rfl ?_
    simp
  refine cut 12 0 [(2, .bool (eqI v2.2 0))] [] ?_ ?_
  · refine st ?_
    simp
  refine awp_ret ?_
  obtain rfl := oi h
  simp
end Go.Proofs.Ythbjlmoaceaeeaa
set_option linter.unusedVariables false
set_option linter.unusedSimpArgs false
set_option maxRecDepth 100000
set_option maxHeartbeats 1000000
namespace Go.Proofs.Ythbjlmoaceaeeaa
open Go Go.Abs
theorem bytecode_Valid_1_ok (fuel : Nat) (s1 : (List UInt8)) (r : Bool) (h : M.bytecode_Valid_1 fuel s1 = some r) : Pure Try.prog 55 [.str s1] (.bool r) := by
  rw [M.bytecode_Valid_1] at h
  refine pure_of_body Try.func55 (by rfl) (by rfl) (by simp) (by simp) (by simp) ?_
  refine cut 6 0 [(0, .str s1)] [] ?_ ?_
  · refine st ?_
    simp
  obtain ⟨v2, q3, h⟩ := bs h
  refine cut 6 0 [(2, .bool (!v2))] [] ?_ ?_
  · refine st ?_
    simp
    have r4 := bytecode_quoted_ok fuel s1 v2 q3
    try simp [] at r4
    refine callPure r4 (by simp) rfl ?_
    simp
  refine awp_ret ?_
  obtain rfl := oi h
  simp
end Go.Proofs.Ythbjlmoaceaeeaa
set_option linter.unusedVariables false
set_option linter.unusedSimpArgs false
set_option maxRecDepth 100000
set_option maxHeartbeats 1000000
namespace Go.Proofs.Ythbjlmoaceaeeaa
open Go Go.Abs
theorem slices_IndexFunc_string_Valid_1_ok (fuel : Nat) (s1 : (List (List UInt8))) (r : Int) (h : M.slices_IndexFunc_string_Valid_1 fuel s1 = some r) : Pure Try.prog 84 [.sl (s1.map cS), .fn (.func 55) [] []] (.int .i64 r) := by
  rw [M.slices_IndexFunc_string_Valid_1] at h
  refine pure_of_body Try.func84 (by rfl) (by rfl) (by simp) (by simp) (by simp) ?_
  refine cut 19 0 [(0, .sl (s1.map cS)), (1, .fn (.func 55) [] [])] [] ?_ ?_
  · refine st ?_
    simp
  refine awp_seq ?_
  refine cut 19 0 [(0, .sl (s1.map cS)), (1, .fn (.func 55) [] []), (7, .int .i64 (s1.length : Int)), (8, .int .i64 0)] [] ?_ ?_
  · refine st ?_
    simp
  refine awp_block ?_
  obtain ⟨o4, l5, h⟩ := bs h
  refine awp_inv (fun p : Nat × Nat => mkS 19 0 [(0, .sl (s1.map cS)), (1, .fn (.func 55) [] []), (7, .int .i64 (s1.length : Int)), (8, .int .i64 ((p.2 : Nat) : Int))] []) (fun p => M.slices_IndexFunc_string_Valid_1_l1 fuel s1 p.1 p.2 = some o4) (fun p => p.1) (fuel, 0) l5 (le_mkS (by simp)) ?_
  rintro ⟨k6, i2⟩ l5
  try dsimp only at l5 ⊢
  cases k6 with
  | zero =>
    rw [M.slices_IndexFunc_string_Valid_1_l1] at l5; cases l5
  | succ k7 =>
    rw [M.slices_IndexFunc_string_Valid_1_l1] at l5
    refine cut 19 0 [(0, .sl (s1.map cS)), (1, .fn (.func 55) [] []), (7, .int .i64 (s1.length : Int)), (8, .int .i64 ((i2 : Nat) : Int)), (9, .bool (ltI ((i2 : Nat) : Int) (s1.length : Int)))] [] ?_ ?_
    · refine st ?_
      simp
    refine awp_seq ?_
    rcases sp l5 with ⟨g8, l5⟩ | ⟨g8, l5⟩
    · have c9 := ltT g8
      refine condT rfl g8 ?_
      refine factL 0 rfl fun f10 => ?_
      rw [List.length_map] at f10
      refine awp_skip ?_
      refine seq_eq ?_
      refine awp_seq ?_
      refine awp_block ?_
      refine cut 19 0 [(0, .sl (s1.map cS)), (1, .fn (.func 55) [] []), (5, .int .i64 ((i2 : Nat) : Int)), (7, .int .i64 (s1.length : Int)), (8, .int .i64 ((i2 : Nat) : Int))] [] ?_ ?_
      · refine st ?_
        simp
      obtain ⟨x11, q12, l5⟩ := bs l5
      obtain ⟨v13, q14, l5⟩ := bs l5
      refine cut 19 0 [(0, .sl (s1.map cS)), (1, .fn (.func 55) [] []), (5, .int .i64 ((i2 : Nat) : Int)), (7, .int .i64 (s1.length : Int)), (8, .int .i64 ((i2 : Nat) : Int)), (16, .bool v13)] [] ?_ ?_
      · refine st ?_
        simp [q12]
        have r17 := bytecode_Valid_1_ok fuel x11 v13 q14
        try simp [q12] at r17
        refine callPure r17 (by simp) rfl ?_
        simp [q12]
      rcases sp l5 with ⟨g15, l5⟩ | ⟨g15, l5⟩
      · refine condT rfl g15 ?_
        refine cut 19 0 [(4, .int .i64 ((i2 : Nat) : Int))] [] ?_ ?_
        · refine st ?_
          simp
        refine awp_ret ?_
        refine ret_blk ?_
        refine ret_seq ?_
        replace h := retL l5 h
        refine ret_seq ?_
        refine ret_blk ?_
        refine ret_seq ?_
        obtain rfl := oi h
        simp
      refine condF rfl g15 ?_
      refine awp_skip ?_
      refine blk_n ?_
      refine seq_eq ?_
      have q16 : Rng .i64 (((i2 : Nat) : Int) + 1) := by simp only [Rng, inR]; omega
      try simp at q16
      refine last 19 0 [(0, .sl (s1.map cS)), (1, .fn (.func 55) [] []), (7, .int .i64 (s1.length : Int)), (8, .int .i64 ((i2 + 1 : Nat) : Int))] [] ?_ fun zz hs => ?_
      · refine st ?_
        simp [q16]
      exact ⟨(k7, i2 + 1), hs, l5, by simp⟩
    have c18 := ltF g8
    refine condF rfl g8 ?_
    refine factL 0 rfl fun f19 => ?_
    rw [List.length_map] at f19
    refine awp_exit ?_
    refine exit_seq ?_
    rcases o4 with o4 | o3
    · cases l5
    have q20 := Sum.inr.inj (Option.some.inj l5)
    replace h := elimR h
    refine exit_seq ?_
    refine exit_blk ?_
    refine seq_le (t := mkS 19 0 [] []) ?_ (le_mkS (by simp []))
    refine cut 19 0 [(4, .int .i64 (-1))] [] ?_ ?_
    · refine st ?_
      simp
    refine awp_ret ?_
    obtain rfl := oi h
    simp
end Go.Proofs.Ythbjlmoaceaeeaa
set_option linter.unusedVariables false
set_option linter.unusedSimpArgs false
set_option maxRecDepth 100000
set_option maxHeartbeats 1000000
namespace Go.Proofs.Ythbjlmoaceaeeaa
open Go Go.Abs
theorem slices_ContainsFunc_string_Valid_1_ok (fuel : Nat) (s1 : (List (List UInt8))) (r : Bool) (h : M.slices_ContainsFunc_string_Valid_1 fuel s1 = some r) : Pure Try.prog 46 [.sl (s1.map cS), .fn (.func 55) [] []] (.bool r) := by
  rw [M.slices_ContainsFunc_string_Valid_1] at h
  refine pure_of_body Try.func46 (by rfl) (by rfl) (by simp) (by simp) (by simp) ?_
  refine cut 9 0 [(0, .sl (s1.map cS)), (1, .fn (.func 55) [] [])] [] ?_ ?_
  · refine st ?_
    simp
  obtain ⟨v2, q3, h⟩ := bs h
  refine cut 9 0 [(4, .bool (leI 0 v2))] [] ?_ ?_
  · refine st ?_
    simp
    have r4 := slices_IndexFunc_string_Valid_1_ok fuel s1 v2 q3
    try simp [] at r4
    refine callPure r4 (by simp) rfl ?_
    simp
  refine awp_ret ?_
  obtain rfl := oi h
  simp
end Go.Proofs.Ythbjlmoaceaeeaa
set_option linter.unusedVariables false
set_option linter.unusedSimpArgs false
set_option maxRecDepth 100000
set_option maxHeartbeats 1000000
namespace Go.Proofs.Ythbjlmoaceaeeaa
open Go Go.Abs
theorem bytecode_words_ok (r : Unit) (h : M.bytecode_words = some r) : Pure Try.prog 92 [] (.agg [.str ([] : List UInt8), .int .i64 0, .str [105, 110, 116], .int .i64 1, .str [116, 101, 120, 116], .int .i64 1, .str [108, 111, 99, 97, 108], .int .i64 1, .str [115, 116, 111, 114, 101], .int .i64 1, .str [99, 97, 112, 116, 117, 114, 101], .int .i64 1, .str [115, 101, 108, 102], .int .i64 0, .str [99, 108, 111, 115, 117, 114, 101], .int .i64 2, .str [99, 97, 108, 108], .int .i64 0, .str [114, 101, 116, 117, 114, 110], .int .i64 0, .str [98, 108, 111, 99, 107], .int .i64 1, .str [102, 105, 101, 108, 100], .int .i64 1, .str [116, 97, 103], .int .i64 1, .str [115, 119, 105, 116, 99, 104], .int .i64 2, .str [106, 117, 109, 112], .int .i64 1, .str [112, 114, 105, 109], .int .i64 1, .str [102, 97, 105, 108], .int .i64 1]) := by
  rw [M.bytecode_words] at h
  refine pure_of_body Try.func92 (by rfl) (by rfl) (by simp) (by simp) (by simp) ?_
  refine cut 18 0 [(0, .mptr 0 0)] [[.str ([] : List UInt8), .int .i64 0, .str ([] : List UInt8), .int .i64 0, .str ([] : List UInt8), .int .i64 0, .str ([] : List UInt8), .int .i64 0, .str ([] : List UInt8), .int .i64 0, .str ([] : List UInt8), .int .i64 0, .str ([] : List UInt8), .int .i64 0, .str ([] : List UInt8), .int .i64 0, .str ([] : List UInt8), .int .i64 0, .str ([] : List UInt8), .int .i64 0, .str ([] : List UInt8), .int .i64 0, .str ([] : List UInt8), .int .i64 0, .str ([] : List UInt8), .int .i64 0, .str ([] : List UInt8), .int .i64 0, .str ([] : List UInt8), .int .i64 0, .str ([] : List UInt8), .int .i64 0, .str ([] : List UInt8), .int .i64 0]] ?_ ?_
  · refine st ?_
    simp
  refine cut 18 0 [(0, .mptr 0 0)] [[.str ([] : List UInt8), .int .i64 0, .str [105, 110, 116], .int .i64 1, .str [116, 101, 120, 116], .int .i64 1, .str [108, 111, 99, 97, 108], .int .i64 1, .str [115, 116, 111, 114, 101], .int .i64 1, .str [99, 97, 112, 116, 117, 114, 101], .int .i64 1, .str [115, 101, 108, 102], .int .i64 0, .str [99, 108, 111, 115, 117, 114, 101], .int .i64 2, .str [99, 97, 108, 108], .int .i64 0, .str [114, 101, 116, 117, 114, 110], .int .i64 0, .str [98, 108, 111, 99, 107], .int .i64 1, .str [102, 105, 101, 108, 100], .int .i64 1, .str [116, 97, 103], .int .i64 1, .str [115, 119, 105, 116, 99, 104], .int .i64 2, .str [106, 117, 109, 112], .int .i64 1, .str [112, 114, 105, 109], .int .i64 1, .str [102, 97, 105, 108], .int .i64 1]] ?_ ?_
  · refine st ?_
    simp
  refine awp_ret ?_
  obtain rfl := oi h
  simp
end Go.Proofs.Ythbjlmoaceaeeaa
set_option linter.unusedVariables false
set_option linter.unusedSimpArgs false
set_option maxRecDepth 100000
set_option maxHeartbeats 1000000
namespace Go.Proofs.Ythbjlmoaceaeeaa
open Go Go.Abs
theorem bytecode_right_1_ok (x1 : Api.Instr) (r : Bool) (h : M.bytecode_right_1 x1 = some r) : Pure Try.prog 94 [.agg [.int .i64 x1.Op, .int .i64 x1.A, .int .i64 x1.B]] (.bool r) := by
  rw [M.bytecode_right_1] at h
  refine pure_of_body Try.func94 (by rfl) (by rfl) (by simp) (by simp) (by simp) ?_
  refine cut 6 0 [(1, .mptr 0 0)] [(Api.Instr.c x1)] ?_ ?_
  · refine st ?_
    simp
  refine cut 6 0 [(2, .bool (!(eqI x1.Op 14)))] [(Api.Instr.c x1)] ?_ ?_
  · refine st ?_
    simp
  refine awp_ret ?_
  obtain rfl := oi h
  simp
end Go.Proofs.Ythbjlmoaceaeeaa
set_option linter.unusedVariables false
set_option linter.unusedSimpArgs false
set_option maxRecDepth 100000
set_option maxHeartbeats 1000000
namespace Go.Proofs.Ythbjlmoaceaeeaa
open Go Go.Abs
theorem slices_IndexFunc_api_Instr_right_1_ok (fuel : Nat) (s1 : (List Api.Instr)) (r : Int) (h : M.slices_IndexFunc_api_Instr_right_1 fuel s1 = some r) : Pure Try.prog 131 [.sl (s1.map Api.Instr.c), .fn (.func 94) [] []] (.int .i64 r) := by
  rw [M.slices_IndexFunc_api_Instr_right_1] at h
  refine pure_of_body Try.func131 (by rfl) (by rfl) (by simp) (by simp) (by simp) ?_
  refine cut 19 0 [(0, .sl (s1.map Api.Instr.c)), (1, .fn (.func 94) [] [])] [] ?_ ?_
  · refine st ?_
    simp
  refine awp_seq ?_
  refine cut 19 0 [(0, .sl (s1.map Api.Instr.c)), (1, .fn (.func 94) [] []), (7, .int .i64 (s1.length : Int)), (8, .int .i64 0)] [] ?_ ?_
  · refine st ?_
    simp
  refine awp_block ?_
  obtain ⟨o4, l5, h⟩ := bs h
  refine awp_inv (fun p : Nat × Nat => mkS 19 0 [(0, .sl (s1.map Api.Instr.c)), (1, .fn (.func 94) [] []), (7, .int .i64 (s1.length : Int)), (8, .int .i64 ((p.2 : Nat) : Int))] []) (fun p => M.slices_IndexFunc_api_Instr_right_1_l1 s1 p.1 p.2 = some o4) (fun p => p.1) (fuel, 0) l5 (le_mkS (by simp)) ?_
  rintro ⟨k6, i2⟩ l5
  try dsimp only at l5 ⊢
  cases k6 with
  | zero =>
    rw [M.slices_IndexFunc_api_Instr_right_1_l1] at l5; cases l5
  | succ k7 =>
    rw [M.slices_IndexFunc_api_Instr_right_1_l1] at l5
    refine cut 19 0 [(0, .sl (s1.map Api.Instr.c)), (1, .fn (.func 94) [] []), (7, .int .i64 (s1.length : Int)), (8, .int .i64 ((i2 : Nat) : Int)), (9, .bool (ltI ((i2 : Nat) : Int) (s1.length : Int)))] [] ?_ ?_
    · refine st ?_
      simp
    refine awp_seq ?_
    rcases sp l5 with ⟨g8, l5⟩ | ⟨g8, l5⟩
    · have c9 := ltT g8
      refine condT rfl g8 ?_
      refine factL 0 rfl fun f10 => ?_
      rw [List.length_map] at f10
      refine awp_skip ?_
      refine seq_eq ?_
      refine awp_seq ?_
      refine awp_block ?_
      refine cut 19 0 [(0, .sl (s1.map Api.Instr.c)), (1, .fn (.func 94) [] []), (5, .int .i64 ((i2 : Nat) : Int)), (7, .int .i64 (s1.length : Int)), (8, .int .i64 ((i2 : Nat) : Int))] [] ?_ ?_
      · refine st ?_
        simp
      obtain ⟨x11, q12, l5⟩ := bs l5
      obtain ⟨v13, q14, l5⟩ := bs l5
      refine cut 19 0 [(0, .sl (s1.map Api.Instr.c)), (1, .fn (.func 94) [] []), (5, .int .i64 ((i2 : Nat) : Int)), (7, .int .i64 (s1.length : Int)), (8, .int .i64 ((i2 : Nat) : Int)), (16, .bool v13)] [] ?_ ?_
      · refine st ?_
        simp [q12]
        have r17 := bytecode_right_1_ok x11 v13 q14
        try simp [q12] at r17
        refine callPure r17 (by simp) rfl ?_
        simp [q12]
      rcases sp l5 with ⟨g15, l5⟩ | ⟨g15, l5⟩
      · refine condT rfl g15 ?_
        refine cut 19 0 [(4, .int .i64 ((i2 : Nat) : Int))] [] ?_ ?_
        · refine st ?_
          simp
        refine awp_ret ?_
        refine ret_blk ?_
        refine ret_seq ?_
        replace h := retL l5 h
        refine ret_seq ?_
        refine ret_blk ?_
        refine ret_seq ?_
        obtain rfl := oi h
        simp
      refine condF rfl g15 ?_
      refine awp_skip ?_
      refine blk_n ?_
      refine seq_eq ?_
      have q16 : Rng .i64 (((i2 : Nat) : Int) + 1) := by simp only [Rng, inR]; omega
      try simp at q16
      refine last 19 0 [(0, .sl (s1.map Api.Instr.c)), (1, .fn (.func 94) [] []), (7, .int .i64 (s1.length : Int)), (8, .int .i64 ((i2 + 1 : Nat) : Int))] [] ?_ fun zz hs => ?_
      · refine st ?_
        simp [q16]
      exact ⟨(k7, i2 + 1), hs, l5, by simp⟩
    have c18 := ltF g8
    refine condF rfl g8 ?_
    refine factL 0 rfl fun f19 => ?_
    rw [List.length_map] at f19
    refine awp_exit ?_
    refine exit_seq ?_
    rcases o4 with o4 | o3
    · cases l5
    have q20 := Sum.inr.inj (Option.some.inj l5)
    replace h := elimR h
    refine exit_seq ?_
    refine exit_blk ?_
    refine seq_le (t := mkS 19 0 [] []) ?_ (le_mkS (by simp []))
    refine cut 19 0 [(4, .int .i64 (-1))] [] ?_ ?_
    · refine st ?_
      simp
    refine awp_ret ?_
    obtain rfl := oi h
    simp
end Go.Proofs.Ythbjlmoaceaeeaa
set_option linter.unusedVariables false
set_option linter.unusedSimpArgs false
set_option maxRecDepth 100000
set_option maxHeartbeats 1000000
namespace Go.Proofs.Ythbjlmoaceaeeaa
open Go Go.Abs
theorem slices_ContainsFunc_api_Instr_right_1_ok (fuel : Nat) (s1 : (List Api.Instr)) (r : Bool) (h : M.slices_ContainsFunc_api_Instr_right_1 fuel s1 = some r) : Pure Try.prog 93 [.sl (s1.map Api.Instr.c), .fn (.func 94) [] []] (.bool r) := by
  rw [M.slices_ContainsFunc_api_Instr_right_1] at h
  refine pure_of_body Try.func93 (by rfl) (by rfl) (by simp) (by simp) (by simp) ?_
  refine cut 9 0 [(0, .sl (s1.map Api.Instr.c)), (1, .fn (.func 94) [] [])] [] ?_ ?_
  · refine st ?_
    simp
  obtain ⟨v2, q3, h⟩ := bs h
  refine cut 9 0 [(4, .bool (leI 0 v2))] [] ?_ ?_
  · refine st ?_
    simp
    have r4 := slices_IndexFunc_api_Instr_right_1_ok fuel s1 v2 q3
    try simp [] at r4
    refine callPure r4 (by simp) rfl ?_
    simp
  refine awp_ret ?_
  obtain rfl := oi h
  simp
end Go.Proofs.Ythbjlmoaceaeeaa
set_option linter.unusedVariables false
set_option linter.unusedSimpArgs false
set_option maxRecDepth 100000
set_option maxHeartbeats 1000000
namespace Go.Proofs.Ythbjlmoaceaeeaa
open Go Go.Abs
theorem bytecode_right_ok (fuel : Nat) (p1 : Api.Program) (f2 : Api.Fun) (at3 : Int) (r : Bool) (h : M.bytecode_right fuel p1 f2 at3 = some r) : Pure Try.prog 57 [.agg [.sl (p1.Funs.map Api.Fun.c), .sl (p1.Texts.map cS), .int .i64 p1.Main], .agg [.int .i64 f2.Captures, .int .i64 f2.Locals, .int .i64 f2.Depth, .sl (f2.Code.map Api.Instr.c)], .int .i64 at3] (.bool r) := by
  rw [M.bytecode_right] at h
  refine pure_of_body Try.func57 (by rfl) (by rfl) (by simp) (by simp) (by simp) ?_
  refine cut 160 0 [(2, .int .i64 at3), (3, .mptr 0 0), (4, .mptr 1 0)] [(Api.Program.c p1), (Api.Fun.c f2)] ?_ ?_
  · refine st ?_
    simp
  obtain ⟨x4, q5, h⟩ := bs h
  obtain ⟨q6, q7⟩ := idx_ok q5
  refine cut 160 0 [(2, .int .i64 at3), (3, .mptr 0 0), (4, .mptr 1 0), (7, .mptr 2 0)] [(Api.Program.c p1), (Api.Fun.c f2), (Api.Instr.c x4)] ?_ ?_
  · refine st ?_
    simp [q6, q7]
  refine awp_seq ?_
  obtain ⟨v8, q9, h⟩ := bs h
  refine cut 160 0 [(2, .int .i64 at3), (3, .mptr 0 0), (4, .mptr 1 0), (7, .mptr 2 0), (17, .bool (!v8))] [(Api.Program.c p1), (Api.Fun.c f2), (Api.Instr.c x4)] ?_ ?_
  · refine st ?_
    simp
    have r196 := bytecode_known_ok x4.Op v8 q9
    try simp [] at r196
    refine callPure r196 (by simp) rfl ?_
    simp
  rcases sp h with ⟨g10, h⟩ | ⟨g10, h⟩
  · have g11 := notT g10
    refine condT rfl g10 ?_
    refine cut 160 0 [(6, .bool false)] [(Api.Program.c p1), (Api.Fun.c f2), (Api.Instr.c x4)] ?_ ?_
    · refine st ?_
      simp
    refine awp_ret ?_
    refine ret_seq ?_
    obtain rfl := oi h
    simp
  have g12 := notF g10
  refine condF rfl g10 ?_
  refine awp_skip ?_
  refine seq_eq ?_
  obtain ⟨v13, q14, h⟩ := bs h
  obtain ⟨x17, q18, h⟩ := bs h
  obtain ⟨q19, q20⟩ := idx_ok q18
  have q15 := row_drop rc_Bytecode_word q20
  simp [row] at q15
  have q16 := idx_lt q20
  simp at q16
  refine cut 160 0 [(2, .int .i64 at3), (3, .mptr 0 0), (4, .mptr 1 0), (7, .mptr 2 0), (8, .int .i64 x17.operands)] [(Api.Program.c p1), (Api.Fun.c f2), (Api.Instr.c x4)] ?_ ?_
  · refine awp_region_draw [] mixed (n := 160) rfl (by decide) ?_
    simp [q19, q20, q15, q16]
    have r195 := bytecode_words_ok v13 q14
    try simp [q19, q20, q15, q16] at r195
    refine callD r195 (by simp) rfl ?_
    simp [q19, q20, q15, q16]
  refine awp_seq ?_
  refine cut 160 0 [(2, .int .i64 at3), (3, .mptr 0 0), (4, .mptr 1 0), (7, .mptr 2 0), (38, .bool (if ltI x17.operands 1 then (!(eqI x4.A 0)) || ((ltI x17.operands 2) && (!(eqI x4.B 0))) else (ltI x17.operands 2) && (!(eqI x4.B 0))))] [(Api.Program.c p1), (Api.Fun.c f2), (Api.Instr.c x4)] ?_ ?_
  · rcases tf (ltI x17.operands 1) with g21 | g21
    · have c22 := ltT g21
      rcases tf (!(eqI x4.A 0)) with g23 | g23
      · have g24 := notT g23
        have c25 := eqF g24
        refine st ?_
        simp [g21, g23]
      have g26 := notF g23
      have c27 := eqT g26
      rcases tf (ltI x17.operands 2) with g28 | g28
      · have c29 := ltT g28
        refine st ?_
        simp [g21, g23, g28]
      have c30 := ltF g28
      refine st ?_
      simp [g21, g23, g28]
    have c31 := ltF g21
    rcases tf (ltI x17.operands 2) with g32 | g32
    · have c33 := ltT g32
      refine st ?_
      simp [g21, g32]
    have c34 := ltF g32
    refine st ?_
    simp [g21, g32]
  rcases sp h with ⟨g35, h⟩ | ⟨g35, h⟩
  · refine condT rfl g35 ?_
    refine cut 160 0 [(6, .bool false)] [(Api.Program.c p1), (Api.Fun.c f2), (Api.Instr.c x4)] ?_ ?_
    · refine st ?_
      simp
    refine awp_ret ?_
    refine ret_seq ?_
    obtain rfl := oi h
    simp
  refine condF rfl g35 ?_
  refine awp_skip ?_
  refine seq_eq ?_
  refine awp_seq ?_
  refine cut 160 0 [(2, .int .i64 at3), (3, .mptr 0 0), (4, .mptr 1 0), (7, .mptr 2 0), (40, .int .i64 x4.Op)] [(Api.Program.c p1), (Api.Fun.c f2), (Api.Instr.c x4)] ?_ ?_
  · refine st ?_
    simp
  refine awp_block ?_
  refine cut 160 0 [(2, .int .i64 at3), (3, .mptr 0 0), (4, .mptr 1 0), (7, .mptr 2 0), (40, .int .i64 x4.Op), (41, .bool (eqI x4.Op 1))] [(Api.Program.c p1), (Api.Fun.c f2), (Api.Instr.c x4)] ?_ ?_
  · refine st ?_
    simp
  rcases sp h with ⟨g36, h⟩ | ⟨g36, h⟩
  · have c37 := eqT g36
    refine condT rfl g36 ?_
    obtain ⟨v38, q39, h⟩ := bs h
    refine cut 160 0 [(6, .bool v38)] [(Api.Program.c p1), (Api.Fun.c f2), (Api.Instr.c x4)] ?_ ?_
    · refine st ?_
      simp
      have r40 := bytecode_within_ok x4.A (-4503599627370496) 4503599627370496 v38 q39
      try simp [] at r40
      refine callPure r40 (by simp) rfl ?_
      simp
    refine awp_ret ?_
    refine ret_blk ?_
    refine ret_seq ?_
    obtain rfl := oi h
    simp
  have c41 := eqF g36
  refine condF rfl g36 ?_
  refine cut 160 0 [(2, .int .i64 at3), (3, .mptr 0 0), (4, .mptr 1 0), (7, .mptr 2 0), (40, .int .i64 x4.Op), (46, .bool (eqI x4.Op 2))] [(Api.Program.c p1), (Api.Fun.c f2), (Api.Instr.c x4)] ?_ ?_
  · refine st ?_
    simp
  rcases sp h with ⟨g42, h⟩ | ⟨g42, h⟩
  · have c43 := eqT g42
    refine condT rfl g42 ?_
    obtain ⟨n44, q45, h⟩ := bs h
    obtain ⟨q46, q47⟩ := chk_ok q45
    try simp at q46
    try simp at q47
    have c48 := q46; simp only [Rng, inR] at c48
    obtain ⟨v49, q50, h⟩ := bs h
    refine cut 160 0 [(6, .bool v49)] [(Api.Program.c p1), (Api.Fun.c f2), (Api.Instr.c x4)] ?_ ?_
    · refine st ?_
      simp [q46, q47]
      have r51 := bytecode_within_ok x4.A 0 n44 v49 q50
      try simp [q46, q47] at r51
      refine callPure r51 (by simp) rfl ?_
      simp [q46, q47]
    refine awp_ret ?_
    refine ret_blk ?_
    refine ret_seq ?_
    obtain rfl := oi h
    simp
  have c52 := eqF g42
  refine condF rfl g42 ?_
  refine awp_seq ?_
  refine cut 160 0 [(2, .int .i64 at3), (3, .mptr 0 0), (4, .mptr 1 0), (7, .mptr 2 0), (40, .int .i64 x4.Op), (55, .bool (eqI x4.Op 3))] [(Api.Program.c p1), (Api.Fun.c f2), (Api.Instr.c x4)] ?_ ?_
  · refine st ?_
    simp
  rcases sp h with ⟨g53, h⟩ | ⟨g53, h⟩
  · have c54 := eqT g53
    refine condT rfl g53 ?_
    refine awp_skip ?_
    refine seq_eq ?_
    refine condT rfl (by simp [g53]) ?_
    obtain ⟨n55, q56, h⟩ := bs h
    obtain ⟨q57, q58⟩ := chk_ok q56
    try simp at q57
    try simp at q58
    have c59 := q57; simp only [Rng, inR] at c59
    obtain ⟨v60, q61, h⟩ := bs h
    refine cut 160 0 [(6, .bool v60)] [(Api.Program.c p1), (Api.Fun.c f2), (Api.Instr.c x4)] ?_ ?_
    · refine st ?_
      simp [q57, q58]
      have r62 := bytecode_within_ok x4.A 0 n55 v60 q61
      try simp [q57, q58] at r62
      refine callPure r62 (by simp) rfl ?_
      simp [q57, q58]
    refine awp_ret ?_
    refine ret_blk ?_
    refine ret_seq ?_
    obtain rfl := oi h
    simp
  have c63 := eqF g53
  refine condF rfl g53 ?_
  refine last 160 0 [(2, .int .i64 at3), (3, .mptr 0 0), (4, .mptr 1 0), (7, .mptr 2 0), (40, .int .i64 x4.Op), (55, .bool (eqI x4.Op 4))] [(Api.Program.c p1), (Api.Fun.c f2), (Api.Instr.c x4)] ?_ fun zz hs => ?_
  · refine st ?_
    simp
  refine seq_le ?_ hs
  rcases sp h with ⟨g64, h⟩ | ⟨g64, h⟩
  · have c65 := eqT g64
    refine condT rfl g64 ?_
    obtain ⟨n66, q67, h⟩ := bs h
    obtain ⟨q68, q69⟩ := chk_ok q67
    try simp at q68
    try simp at q69
    have c70 := q68; simp only [Rng, inR] at c70
    obtain ⟨v71, q72, h⟩ := bs h
    refine cut 160 0 [(6, .bool v71)] [(Api.Program.c p1), (Api.Fun.c f2), (Api.Instr.c x4)] ?_ ?_
    · refine st ?_
      simp [q68, q69]
      have r73 := bytecode_within_ok x4.A 0 n66 v71 q72
      try simp [q68, q69] at r73
      refine callPure r73 (by simp) rfl ?_
      simp [q68, q69]
    refine awp_ret ?_
    refine ret_blk ?_
    refine ret_seq ?_
    obtain rfl := oi h
    simp
  have c74 := eqF g64
  refine condF rfl g64 ?_
  refine cut 160 0 [(2, .int .i64 at3), (3, .mptr 0 0), (4, .mptr 1 0), (7, .mptr 2 0), (40, .int .i64 x4.Op), (64, .bool (eqI x4.Op 5))] [(Api.Program.c p1), (Api.Fun.c f2), (Api.Instr.c x4)] ?_ ?_
  · refine st ?_
    simp
  rcases sp h with ⟨g75, h⟩ | ⟨g75, h⟩
  · have c76 := eqT g75
    refine condT rfl g75 ?_
    obtain ⟨n77, q78, h⟩ := bs h
    obtain ⟨q79, q80⟩ := chk_ok q78
    try simp at q79
    try simp at q80
    have c81 := q79; simp only [Rng, inR] at c81
    obtain ⟨v82, q83, h⟩ := bs h
    refine cut 160 0 [(6, .bool v82)] [(Api.Program.c p1), (Api.Fun.c f2), (Api.Instr.c x4)] ?_ ?_
    · refine st ?_
      simp [q79, q80]
      have r84 := bytecode_within_ok x4.A 0 n77 v82 q83
      try simp [q79, q80] at r84
      refine callPure r84 (by simp) rfl ?_
      simp [q79, q80]
    refine awp_ret ?_
    refine ret_blk ?_
    refine ret_seq ?_
    obtain rfl := oi h
    simp
  have c85 := eqF g75
  refine condF rfl g75 ?_
  refine cut 160 0 [(2, .int .i64 at3), (3, .mptr 0 0), (4, .mptr 1 0), (7, .mptr 2 0), (40, .int .i64 x4.Op), (72, .bool (eqI x4.Op 7))] [(Api.Program.c p1), (Api.Fun.c f2), (Api.Instr.c x4)] ?_ ?_
  · refine st ?_
    simp
  rcases sp h with ⟨g86, h⟩ | ⟨g86, h⟩
  · have c87 := eqT g86
    refine condT rfl g86 ?_
    obtain ⟨b100, q101, h⟩ := bs h
    refine cut 160 0 [(6, .bool b100)] [(Api.Program.c p1), (Api.Fun.c f2), (Api.Instr.c x4)] ?_ ?_
    · obtain ⟨n88, q89, q101⟩ := bs q101
      obtain ⟨q90, q91⟩ := chk_ok q89
      try simp at q90
      try simp at q91
      have c92 := q90; simp only [Rng, inR] at c92
      obtain ⟨v93, q94, q101⟩ := bs q101
      rcases sp q101 with ⟨g95, q101⟩ | ⟨g95, q101⟩
      · obtain ⟨x96, q97, q101⟩ := bs q101
        obtain ⟨q98, q99⟩ := idx_ok q97
        obtain rfl := oi q101
        refine awp_region_draw [] mixed (n := 160) rfl (by decide) ?_
        simp [q90, q91, g95, q98, q99]
        have r102 := bytecode_within_ok x4.A 0 n88 v93 q94
        try simp [q90, q91, g95, q98, q99] at r102
        refine callD r102 (by simp) rfl ?_
        simp [q90, q91, g95, q98, q99]
      obtain rfl := oi q101
      refine awp_region_draw [] mixed (n := 160) rfl (by decide) ?_
      simp [q90, q91, g95]
      have r103 := bytecode_within_ok x4.A 0 n88 v93 q94
      try simp [q90, q91, g95] at r103
      refine callD r103 (by simp) rfl ?_
      simp [q90, q91, g95]
    refine awp_ret ?_
    refine ret_blk ?_
    refine ret_seq ?_
    obtain rfl := oi h
    simp
  have c104 := eqF g86
  refine condF rfl g86 ?_
  refine cut 160 0 [(2, .int .i64 at3), (4, .mptr 1 0), (7, .mptr 2 0), (40, .int .i64 x4.Op), (93, .bool (eqI x4.Op 10))] [(Api.Program.c p1), (Api.Fun.c f2), (Api.Instr.c x4)] ?_ ?_
  · refine st ?_
    simp
  rcases sp h with ⟨g105, h⟩ | ⟨g105, h⟩
  · have c106 := eqT g105
    refine condT rfl g105 ?_
    obtain ⟨v107, q108, h⟩ := bs h
    refine cut 160 0 [(6, .bool v107)] [(Api.Program.c p1), (Api.Fun.c f2), (Api.Instr.c x4)] ?_ ?_
    · refine st ?_
      simp
      have r109 := bytecode_within_ok x4.A 0 1000 v107 q108
      try simp [] at r109
      refine callPure r109 (by simp) rfl ?_
      simp
    refine awp_ret ?_
    refine ret_blk ?_
    refine ret_seq ?_
    obtain rfl := oi h
    simp
  have c110 := eqF g105
  refine condF rfl g105 ?_
  refine awp_seq ?_
  refine cut 160 0 [(2, .int .i64 at3), (4, .mptr 1 0), (7, .mptr 2 0), (40, .int .i64 x4.Op), (98, .bool (eqI x4.Op 11))] [(Api.Program.c p1), (Api.Fun.c f2), (Api.Instr.c x4)] ?_ ?_
  · refine st ?_
    simp
  rcases sp h with ⟨g111, h⟩ | ⟨g111, h⟩
  · have c112 := eqT g111
    refine condT rfl g111 ?_
    refine awp_skip ?_
    refine seq_eq ?_
    refine condT rfl (by simp [g111]) ?_
    obtain ⟨v113, q114, h⟩ := bs h
    refine cut 160 0 [(6, .bool v113)] [(Api.Program.c p1), (Api.Fun.c f2), (Api.Instr.c x4)] ?_ ?_
    · refine st ?_
      simp
      have r115 := bytecode_within_ok x4.A 0 999 v113 q114
      try simp [] at r115
      refine callPure r115 (by simp) rfl ?_
      simp
    refine awp_ret ?_
    refine ret_blk ?_
    refine ret_seq ?_
    obtain rfl := oi h
    simp
  have c116 := eqF g111
  refine condF rfl g111 ?_
  refine last 160 0 [(2, .int .i64 at3), (4, .mptr 1 0), (7, .mptr 2 0), (40, .int .i64 x4.Op), (98, .bool (eqI x4.Op 12))] [(Api.Program.c p1), (Api.Fun.c f2), (Api.Instr.c x4)] ?_ fun zz hs => ?_
  · refine st ?_
    simp
  refine seq_le ?_ hs
  rcases sp h with ⟨g117, h⟩ | ⟨g117, h⟩
  · have c118 := eqT g117
    refine condT rfl g117 ?_
    obtain ⟨v119, q120, h⟩ := bs h
    refine cut 160 0 [(6, .bool v119)] [(Api.Program.c p1), (Api.Fun.c f2), (Api.Instr.c x4)] ?_ ?_
    · refine st ?_
      simp
      have r121 := bytecode_within_ok x4.A 0 999 v119 q120
      try simp [] at r121
      refine callPure r121 (by simp) rfl ?_
      simp
    refine awp_ret ?_
    refine ret_blk ?_
    refine ret_seq ?_
    obtain rfl := oi h
    simp
  have c122 := eqF g117
  refine condF rfl g117 ?_
  refine cut 160 0 [(2, .int .i64 at3), (4, .mptr 1 0), (7, .mptr 2 0), (40, .int .i64 x4.Op), (104, .bool (eqI x4.Op 13))] [(Api.Program.c p1), (Api.Fun.c f2), (Api.Instr.c x4)] ?_ ?_
  · refine st ?_
    simp
  rcases sp h with ⟨g123, h⟩ | ⟨g123, h⟩
  · have c124 := eqT g123
    refine condT rfl g123 ?_
    refine awp_seq ?_
    obtain ⟨b145, q146, h⟩ := bs h
    refine cut 160 0 [(2, .int .i64 at3), (4, .mptr 1 0), (7, .mptr 2 0), (128, .bool b145)] [(Api.Program.c p1), (Api.Fun.c f2), (Api.Instr.c x4)] ?_ ?_
    · obtain ⟨n125, q126, q146⟩ := bs q146
      obtain ⟨q127, q128⟩ := chk_ok q126
      try simp at q127
      try simp at q128
      have c129 := q127; simp only [Rng, inR] at c129
      obtain ⟨v130, q131, q146⟩ := bs q146
      rcases sp q146 with ⟨g132, q146⟩ | ⟨g132, q146⟩
      · have g133 := notT g132
        obtain rfl := oi q146
        refine st ?_
        simp [q127, q128, g132]
        have r166 := bytecode_within_ok x4.A 0 n125 v130 q131
        try simp [q127, q128, g132] at r166
        refine callPure r166 (by simp) rfl ?_
        simp [q127, q128, g132]
      have g134 := notF g132
      obtain ⟨v135, q136, q146⟩ := bs q146
      rcases sp q146 with ⟨g137, q146⟩ | ⟨g137, q146⟩
      · have g138 := notT g137
        obtain rfl := oi q146
        refine st ?_
        simp [q127, q128, g132, g137]
        have r167 := bytecode_within_ok x4.A 0 n125 v130 q131
        try simp [q127, q128, g132, g137] at r167
        refine callPure r167 (by simp) rfl ?_
        simp [q127, q128, g132, g137]
        have r168 := bytecode_within_ok x4.B 1 1000 v135 q136
        try simp [q127, q128, g132, g137] at r168
        refine callPure r168 (by simp) rfl ?_
        simp [q127, q128, g132, g137]
      have g139 := notF g137
      obtain ⟨n140, q141, q146⟩ := bs q146
      obtain ⟨q142, q143⟩ := chk_ok q141
      try simp at q142
      try simp at q143
      have c144 := q142; simp only [Rng, inR] at c144
      obtain rfl := oi q146
      refine st ?_
      simp [q127, q128, g132, g137, q142, q143]
      have r169 := bytecode_within_ok x4.A 0 n125 v130 q131
      try simp [q127, q128, g132, g137, q142, q143] at r169
      refine callPure r169 (by simp) rfl ?_
      simp [q127, q128, g132, g137, q142, q143]
      have r170 := bytecode_within_ok x4.B 1 1000 v135 q136
      try simp [q127, q128, g132, g137, q142, q143] at r170
      refine callPure r170 (by simp) rfl ?_
      simp [q127, q128, g132, g137, q142, q143]
    rcases sp h with ⟨g147, h⟩ | ⟨g147, h⟩
    · refine condT rfl g147 ?_
      refine cut 160 0 [(6, .bool false)] [(Api.Program.c p1), (Api.Fun.c f2), (Api.Instr.c x4)] ?_ ?_
      · refine st ?_
        simp
      refine awp_ret ?_
      refine ret_seq ?_
      refine ret_blk ?_
      refine ret_seq ?_
      obtain rfl := oi h
      simp
    refine condF rfl g147 ?_
    refine awp_skip ?_
    refine seq_eq ?_
    obtain ⟨n148, q149, h⟩ := bs h
    obtain ⟨q150, q151⟩ := chk_ok q149
    try simp at q150
    try simp at q151
    have c152 := q150; simp only [Rng, inR] at c152
    have c153 := q150; simp only [Rng, inR] at c153
    obtain ⟨n154, q155, h⟩ := bs h
    obtain ⟨q156, q157⟩ := chk_ok q155
    try simp at q156
    try simp at q157
    have c158 := q156; simp only [Rng, inR] at c158
    obtain ⟨l159, q160, h⟩ := bs h
    obtain ⟨q161, q162⟩ := subC_ok q160
    try simp at q161
    try simp at q162
    obtain ⟨v163, q164, h⟩ := bs h
    refine cut 160 0 [(6, .bool (!v163))] [(Api.Program.c p1), (Api.Fun.c f2), (Api.Instr.c x4)] ?_ ?_
    · refine st ?_
      simp [q150, q151, q156, q157, q161, q162]
      have r165 := slices_ContainsFunc_api_Instr_right_1_ok fuel l159 v163 q164
      try simp [q150, q151, q156, q157, q161, q162] at r165
      refine callPure r165 (by simp) rfl ?_
      simp [q150, q151, q156, q157, q161, q162]
    refine awp_ret ?_
    refine ret_blk ?_
    refine ret_seq ?_
    obtain rfl := oi h
    simp
  have c171 := eqF g123
  refine condF rfl g123 ?_
  refine cut 160 0 [(4, .mptr 1 0), (7, .mptr 2 0), (40, .int .i64 x4.Op), (141, .bool (eqI x4.Op 14))] [(Api.Program.c p1), (Api.Fun.c f2), (Api.Instr.c x4)] ?_ ?_
  · refine st ?_
    simp
  rcases sp h with ⟨g172, h⟩ | ⟨g172, h⟩
  · have c173 := eqT g172
    refine condT rfl g172 ?_
    obtain ⟨n174, q175, h⟩ := bs h
    obtain ⟨q176, q177⟩ := chk_ok q175
    try simp at q176
    try simp at q177
    have c178 := q176; simp only [Rng, inR] at c178
    obtain ⟨v179, q180, h⟩ := bs h
    refine cut 160 0 [(6, .bool v179)] [(Api.Program.c p1), (Api.Fun.c f2), (Api.Instr.c x4)] ?_ ?_
    · refine st ?_
      simp [q176, q177]
      have r181 := bytecode_within_ok x4.A 0 n174 v179 q180
      try simp [q176, q177] at r181
      refine callPure r181 (by simp) rfl ?_
      simp [q176, q177]
    refine awp_ret ?_
    refine ret_blk ?_
    refine ret_seq ?_
    obtain rfl := oi h
    simp
  have c182 := eqF g172
  refine condF rfl g172 ?_
  refine cut 160 0 [(7, .mptr 2 0), (40, .int .i64 x4.Op), (150, .bool (eqI x4.Op 15))] [(Api.Program.c p1), (Api.Fun.c f2), (Api.Instr.c x4)] ?_ ?_
  · refine st ?_
    simp
  rcases sp h with ⟨g183, h⟩ | ⟨g183, h⟩
  · have c184 := eqT g183
    refine condT rfl g183 ?_
    obtain ⟨v185, q186, h⟩ := bs h
    refine cut 160 0 [(6, .bool v185)] [(Api.Program.c p1), (Api.Fun.c f2), (Api.Instr.c x4)] ?_ ?_
    · refine st ?_
      simp
      have r187 := bytecode_within_ok x4.A 1 14 v185 q186
      try simp [] at r187
      refine callPure r187 (by simp) rfl ?_
      simp
    refine awp_ret ?_
    refine ret_blk ?_
    refine ret_seq ?_
    obtain rfl := oi h
    simp
  have c188 := eqF g183
  refine condF rfl g183 ?_
  refine cut 160 0 [(7, .mptr 2 0), (155, .bool (eqI x4.Op 16))] [(Api.Program.c p1), (Api.Fun.c f2), (Api.Instr.c x4)] ?_ ?_
  · refine st ?_
    simp
  rcases sp h with ⟨g189, h⟩ | ⟨g189, h⟩
  · have c190 := eqT g189
    refine condT rfl g189 ?_
    obtain ⟨v191, q192, h⟩ := bs h
    refine cut 160 0 [(6, .bool v191)] [(Api.Program.c p1), (Api.Fun.c f2), (Api.Instr.c x4)] ?_ ?_
    · refine st ?_
      simp
      have r193 := bytecode_within_ok x4.A 1 1000000 v191 q192
      try simp [] at r193
      refine callPure r193 (by simp) rfl ?_
      simp
    refine awp_ret ?_
    refine ret_blk ?_
    refine ret_seq ?_
    obtain rfl := oi h
    simp
  have c194 := eqF g189
  refine condF rfl g189 ?_
  refine awp_skip ?_
  refine blk_n ?_
  refine seq_eq ?_
  refine cut 160 0 [(6, .bool true)] [(Api.Program.c p1), (Api.Fun.c f2), (Api.Instr.c x4)] ?_ ?_
  · refine st ?_
    simp
  refine awp_ret ?_
  obtain rfl := oi h
  simp
end Go.Proofs.Ythbjlmoaceaeeaa
set_option linter.unusedVariables false
set_option linter.unusedSimpArgs false
set_option maxRecDepth 100000
set_option maxHeartbeats 1000000
namespace Go.Proofs.Ythbjlmoaceaeeaa
open Go Go.Abs
theorem bytecode_Valid_ok (fuel : Nat) (p1 : Api.Program) (r : Bool) (h : M.bytecode_Valid fuel p1 = some r) : Pure Try.prog 23 [.agg [.sl (p1.Funs.map Api.Fun.c), .sl (p1.Texts.map cS), .int .i64 p1.Main]] (.bool r) := by
  rw [M.bytecode_Valid] at h
  refine pure_of_body Try.func23 (by rfl) (by rfl) (by simp) (by simp) (by simp) ?_
  refine cut 92 0 [(1, .mptr 0 0)] [(Api.Program.c p1)] ?_ ?_
  · refine st ?_
    simp
  refine awp_seq ?_
  obtain ⟨b14, q15, h⟩ := bs h
  refine cut 92 0 [(1, .mptr 0 0), (23, .bool b14)] [(Api.Program.c p1)] ?_ ?_
  · obtain ⟨v2, q3, q15⟩ := bs q15
    rcases sp q15 with ⟨g4, q15⟩ | ⟨g4, q15⟩
    · have g5 := notT g4
      obtain rfl := oi q15
      refine st ?_
      simp [g4]
      have r112 := bytecode_within_ok (p1.Funs.length : Int) 1 4096 v2 q3
      try simp [g4] at r112
      refine callPure r112 (by simp) rfl ?_
      simp [g4]
    have g6 := notF g4
    rcases sp q15 with ⟨g7, q15⟩ | ⟨g7, q15⟩
    · have c8 := ltT g7
      refine factCL 0 1 rfl rfl rfl fun f9 => ?_
      rw [List.length_map] at f9
      obtain rfl := oi q15
      refine st ?_
      simp [g4, g7]
      have r113 := bytecode_within_ok (p1.Funs.length : Int) 1 4096 v2 q3
      try simp [g4, g7] at r113
      refine callPure r113 (by simp) rfl ?_
      simp [g4, g7]
    have c10 := ltF g7
    refine factCL 0 1 rfl rfl rfl fun f11 => ?_
    rw [List.length_map] at f11
    obtain ⟨v12, q13, q15⟩ := bs q15
    obtain rfl := oi q15
    refine st ?_
    simp [g4, g7]
    have r114 := bytecode_within_ok (p1.Funs.length : Int) 1 4096 v2 q3
    try simp [g4, g7] at r114
    refine callPure r114 (by simp) rfl ?_
    simp [g4, g7]
    have r115 := slices_ContainsFunc_string_Valid_1_ok fuel p1.Texts v12 q13
    try simp [g4, g7] at r115
    refine callPure r115 (by simp) rfl ?_
    simp [g4, g7]
  rcases sp h with ⟨g16, h⟩ | ⟨g16, h⟩
  · refine condT rfl g16 ?_
    refine cut 92 0 [(2, .bool false)] [(Api.Program.c p1)] ?_ ?_
    · refine st ?_
      simp
    refine awp_ret ?_
    refine ret_seq ?_
    obtain rfl := oi h
    simp
  refine condF rfl g16 ?_
  refine awp_skip ?_
  refine seq_eq ?_
  refine awp_seq ?_
  refine cut 92 0 [(1, .mptr 0 0), (25, .sl (p1.Funs.map Api.Fun.c)), (26, .int .i64 (p1.Funs.length : Int)), (27, .int .i64 0)] [(Api.Program.c p1)] ?_ ?_
  · refine st ?_
    simp
  refine awp_block ?_
  obtain ⟨o19, l20, h⟩ := bs h
  refine awp_inv (fun p : Nat × Nat => mkS 92 0 [(1, .mptr 0 0), (25, .sl (p1.Funs.map Api.Fun.c)), (26, .int .i64 (p1.Funs.length : Int)), (27, .int .i64 ((p.2 : Nat) : Int))] [(Api.Program.c p1)]) (fun p => M.bytecode_Valid_l1 p1 p.1 p.2 = some o19) (fun p => p.1) (fuel, 0) l20 (le_mkS (by simp)) ?_
  rintro ⟨k21, i17⟩ l20
  try dsimp only at l20 ⊢
  cases k21 with
  | zero =>
    rw [M.bytecode_Valid_l1] at l20; cases l20
  | succ k22 =>
    rw [M.bytecode_Valid_l1] at l20
    refine cut 92 0 [(1, .mptr 0 0), (25, .sl (p1.Funs.map Api.Fun.c)), (26, .int .i64 (p1.Funs.length : Int)), (27, .int .i64 ((i17 : Nat) : Int)), (28, .bool (ltI ((i17 : Nat) : Int) (p1.Funs.length : Int)))] [(Api.Program.c p1)] ?_ ?_
    · refine st ?_
      simp
    refine awp_seq ?_
    rcases sp l20 with ⟨g23, l20⟩ | ⟨g23, l20⟩
    · have c24 := ltT g23
      refine condT rfl g23 ?_
      refine factL 25 rfl fun f25 => ?_
      rw [List.length_map] at f25
      refine awp_skip ?_
      refine seq_eq ?_
      refine awp_seq ?_
      refine awp_block ?_
      obtain ⟨x26, q27, l20⟩ := bs l20
      refine cut 92 0 [(1, .mptr 0 0), (4, .mptr 1 0), (25, .sl (p1.Funs.map Api.Fun.c)), (26, .int .i64 (p1.Funs.length : Int)), (27, .int .i64 ((i17 : Nat) : Int))] [(Api.Program.c p1), (Api.Fun.c x26)] ?_ ?_
      · refine st ?_
        simp [q27]
      obtain ⟨b45, q46, l20⟩ := bs l20
      refine cut 92 0 [(1, .mptr 0 0), (25, .sl (p1.Funs.map Api.Fun.c)), (26, .int .i64 (p1.Funs.length : Int)), (27, .int .i64 ((i17 : Nat) : Int)), (53, .bool b45)] [(Api.Program.c p1), (Api.Fun.c x26)] ?_ ?_
      · obtain ⟨v28, q29, q46⟩ := bs q46
        rcases sp q46 with ⟨g30, q46⟩ | ⟨g30, q46⟩
        · have g31 := notT g30
          obtain rfl := oi q46
          refine st ?_
          simp [g30]
          have r49 := bytecode_within_ok x26.Captures 0 1000 v28 q29
          try simp [g30] at r49
          refine callPure r49 (by simp) rfl ?_
          simp [g30]
        have g32 := notF g30
        obtain ⟨v33, q34, q46⟩ := bs q46
        rcases sp q46 with ⟨g35, q46⟩ | ⟨g35, q46⟩
        · have g36 := notT g35
          obtain rfl := oi q46
          refine st ?_
          simp [g30, g35]
          have r50 := bytecode_within_ok x26.Captures 0 1000 v28 q29
          try simp [g30, g35] at r50
          refine callPure r50 (by simp) rfl ?_
          simp [g30, g35]
          have r51 := bytecode_within_ok x26.Locals 1 4096 v33 q34
          try simp [g30, g35] at r51
          refine callPure r51 (by simp) rfl ?_
          simp [g30, g35]
        have g37 := notF g35
        obtain ⟨v38, q39, q46⟩ := bs q46
        rcases sp q46 with ⟨g40, q46⟩ | ⟨g40, q46⟩
        · have g41 := notT g40
          obtain rfl := oi q46
          refine st ?_
          simp [g30, g35, g40]
          have r52 := bytecode_within_ok x26.Captures 0 1000 v28 q29
          try simp [g30, g35, g40] at r52
          refine callPure r52 (by simp) rfl ?_
          simp [g30, g35, g40]
          have r53 := bytecode_within_ok x26.Locals 1 4096 v33 q34
          try simp [g30, g35, g40] at r53
          refine callPure r53 (by simp) rfl ?_
          simp [g30, g35, g40]
          have r54 := bytecode_within_ok x26.Depth 0 4096 v38 q39
          try simp [g30, g35, g40] at r54
          refine callPure r54 (by simp) rfl ?_
          simp [g30, g35, g40]
        have g42 := notF g40
        obtain ⟨v43, q44, q46⟩ := bs q46
        obtain rfl := oi q46
        refine st ?_
        simp [g30, g35, g40]
        have r55 := bytecode_within_ok x26.Captures 0 1000 v28 q29
        try simp [g30, g35, g40] at r55
        refine callPure r55 (by simp) rfl ?_
        simp [g30, g35, g40]
        have r56 := bytecode_within_ok x26.Locals 1 4096 v33 q34
        try simp [g30, g35, g40] at r56
        refine callPure r56 (by simp) rfl ?_
        simp [g30, g35, g40]
        have r57 := bytecode_within_ok x26.Depth 0 4096 v38 q39
        try simp [g30, g35, g40] at r57
        refine callPure r57 (by simp) rfl ?_
        simp [g30, g35, g40]
        have r58 := bytecode_within_ok (x26.Code.length : Int) 1 16384 v43 q44
        try simp [g30, g35, g40] at r58
        refine callPure r58 (by simp) rfl ?_
        simp [g30, g35, g40]
      rcases sp l20 with ⟨g47, l20⟩ | ⟨g47, l20⟩
      · refine condT rfl g47 ?_
        refine cut 92 0 [(2, .bool false)] [(Api.Program.c p1), (Api.Fun.c x26)] ?_ ?_
        · refine st ?_
          simp
        refine awp_ret ?_
        refine ret_blk ?_
        refine ret_seq ?_
        replace h := retL l20 h
        refine ret_seq ?_
        refine ret_blk ?_
        refine ret_seq ?_
        obtain rfl := oi h
        simp
      refine condF rfl g47 ?_
      refine awp_skip ?_
      refine blk_n ?_
      refine seq_eq ?_
      have q48 : Rng .i64 (((i17 : Nat) : Int) + 1) := by simp only [Rng, inR]; omega
      try simp at q48
      refine last 92 0 [(1, .mptr 0 0), (25, .sl (p1.Funs.map Api.Fun.c)), (26, .int .i64 (p1.Funs.length : Int)), (27, .int .i64 ((i17 + 1 : Nat) : Int))] [(Api.Program.c p1)] ?_ fun zz hs => ?_
      · refine st ?_
        simp [q48]
      exact ⟨(k22, i17 + 1), hs, l20, by simp⟩
    have c59 := ltF g23
    refine condF rfl g23 ?_
    refine factL 25 rfl fun f60 => ?_
    rw [List.length_map] at f60
    refine awp_exit ?_
    refine exit_seq ?_
    rcases o19 with o19 | o18
    · cases l20
    have q61 := Sum.inr.inj (Option.some.inj l20)
    replace h := elimR h
    refine exit_seq ?_
    refine exit_blk ?_
    refine seq_le (t := mkS 92 0 [(1, .mptr 0 0)] [(Api.Program.c p1)]) ?_ (le_mkS (by simp []))
    refine awp_seq ?_
    refine cut 92 0 [(1, .mptr 0 0), (56, .sl (p1.Funs.map Api.Fun.c)), (57, .int .i64 (p1.Funs.length : Int)), (58, .int .i64 0)] [(Api.Program.c p1)] ?_ ?_
    · refine st ?_
      simp
    refine awp_block ?_
    obtain ⟨o64, l65, h⟩ := bs h
    refine awp_inv (fun p : Nat × Nat => mkS 92 0 [(1, .mptr 0 0), (56, .sl (p1.Funs.map Api.Fun.c)), (57, .int .i64 (p1.Funs.length : Int)), (58, .int .i64 ((p.2 : Nat) : Int))] [(Api.Program.c p1)]) (fun p => M.bytecode_Valid_l2 fuel p1 p.1 p.2 = some o64) (fun p => p.1) (fuel, 0) l65 (le_mkS (by simp)) ?_
    rintro ⟨k66, i62⟩ l65
    try dsimp only at l65 ⊢
    cases k66 with
    | zero =>
      rw [M.bytecode_Valid_l2] at l65; cases l65
    | succ k67 =>
      rw [M.bytecode_Valid_l2] at l65
      refine cut 92 0 [(1, .mptr 0 0), (56, .sl (p1.Funs.map Api.Fun.c)), (57, .int .i64 (p1.Funs.length : Int)), (58, .int .i64 ((i62 : Nat) : Int)), (59, .bool (ltI ((i62 : Nat) : Int) (p1.Funs.length : Int)))] [(Api.Program.c p1)] ?_ ?_
      · refine st ?_
        simp
      refine awp_seq ?_
      rcases sp l65 with ⟨g68, l65⟩ | ⟨g68, l65⟩
      · have c69 := ltT g68
        refine condT rfl g68 ?_
        refine factL 56 rfl fun f70 => ?_
        rw [List.length_map] at f70
        refine awp_skip ?_
        refine seq_eq ?_
        refine awp_seq ?_
        refine awp_block ?_
        obtain ⟨x71, q72, l65⟩ := bs l65
        refine cut 92 0 [(1, .mptr 0 0), (6, .mptr 1 0), (56, .sl (p1.Funs.map Api.Fun.c)), (57, .int .i64 (p1.Funs.length : Int)), (58, .int .i64 ((i62 : Nat) : Int))] [(Api.Program.c p1), (Api.Fun.c x71)] ?_ ?_
        · refine st ?_
          simp [q72]
        refine cut 92 0 [(1, .mptr 0 0), (6, .mptr 1 0), (56, .sl (p1.Funs.map Api.Fun.c)), (57, .int .i64 (p1.Funs.length : Int)), (58, .int .i64 ((i62 : Nat) : Int)), (64, .int .i64 (x71.Code.length : Int)), (65, .int .i64 0)] [(Api.Program.c p1), (Api.Fun.c x71)] ?_ ?_
        · refine st ?_
          simp
        refine awp_block ?_
        obtain ⟨o75, l76, l65⟩ := bs l65
        refine awp_inv (fun p : Nat × Nat => mkS 92 0 [(1, .mptr 0 0), (6, .mptr 1 0), (56, .sl (p1.Funs.map Api.Fun.c)), (57, .int .i64 (p1.Funs.length : Int)), (58, .int .i64 ((i62 : Nat) : Int)), (64, .int .i64 (x71.Code.length : Int)), (65, .int .i64 ((p.2 : Nat) : Int))] [(Api.Program.c p1), (Api.Fun.c x71)]) (fun p => M.bytecode_Valid_l3 fuel p1 x71 p.1 p.2 = some o75) (fun p => p.1) (fuel, 0) l76 (le_mkS (by simp)) ?_
        rintro ⟨k77, i73⟩ l76
        try dsimp only at l76 ⊢
        cases k77 with
        | zero =>
          rw [M.bytecode_Valid_l3] at l76; cases l76
        | succ k78 =>
          rw [M.bytecode_Valid_l3] at l76
          refine cut 92 0 [(1, .mptr 0 0), (6, .mptr 1 0), (56, .sl (p1.Funs.map Api.Fun.c)), (57, .int .i64 (p1.Funs.length : Int)), (58, .int .i64 ((i62 : Nat) : Int)), (64, .int .i64 (x71.Code.length : Int)), (65, .int .i64 ((i73 : Nat) : Int)), (66, .bool (ltI ((i73 : Nat) : Int) (x71.Code.length : Int)))] [(Api.Program.c p1), (Api.Fun.c x71)] ?_ ?_
          · refine st ?_
            simp
          refine awp_seq ?_
          rcases sp l76 with ⟨g79, l76⟩ | ⟨g79, l76⟩
          · have c80 := ltT g79
            refine condT rfl g79 ?_
            refine factCL 1 3 rfl rfl rfl fun f81 => ?_
            rw [List.length_map] at f81
            refine awp_skip ?_
            refine seq_eq ?_
            refine awp_seq ?_
            refine awp_block ?_
            refine cut 92 0 [(1, .mptr 0 0), (6, .mptr 1 0), (7, .int .i64 ((i73 : Nat) : Int)), (56, .sl (p1.Funs.map Api.Fun.c)), (57, .int .i64 (p1.Funs.length : Int)), (58, .int .i64 ((i62 : Nat) : Int)), (64, .int .i64 (x71.Code.length : Int)), (65, .int .i64 ((i73 : Nat) : Int))] [(Api.Program.c p1), (Api.Fun.c x71)] ?_ ?_
            · refine st ?_
              simp
            obtain ⟨v82, q83, l76⟩ := bs l76
            refine cut 92 0 [(1, .mptr 0 0), (6, .mptr 1 0), (56, .sl (p1.Funs.map Api.Fun.c)), (57, .int .i64 (p1.Funs.length : Int)), (58, .int .i64 ((i62 : Nat) : Int)), (64, .int .i64 (x71.Code.length : Int)), (65, .int .i64 ((i73 : Nat) : Int)), (72, .bool (!v82))] [(Api.Program.c p1), (Api.Fun.c x71)] ?_ ?_
            · refine st ?_
              simp
              have r88 := bytecode_right_ok fuel p1 x71 ((i73 : Nat) : Int) v82 q83
              try simp [] at r88
              refine callPure r88 (by simp) rfl ?_
              simp
            rcases sp l76 with ⟨g84, l76⟩ | ⟨g84, l76⟩
            · have g85 := notT g84
              refine condT rfl g84 ?_
              refine cut 92 0 [(2, .bool false)] [(Api.Program.c p1), (Api.Fun.c x71)] ?_ ?_
              · refine st ?_
                simp
              refine awp_ret ?_
              refine ret_blk ?_
              refine ret_seq ?_
              replace l65 := retL l76 l65
              refine ret_seq ?_
              refine ret_blk ?_
              refine ret_blk ?_
              refine ret_seq ?_
              replace h := retL l65 h
              refine ret_seq ?_
              refine ret_blk ?_
              refine ret_seq ?_
              obtain rfl := oi h
              simp
            have g86 := notF g84
            refine condF rfl g84 ?_
            refine awp_skip ?_
            refine blk_n ?_
            refine seq_eq ?_
            have q87 : Rng .i64 (((i73 : Nat) : Int) + 1) := by simp only [Rng, inR]; omega
            try simp at q87
            refine last 92 0 [(1, .mptr 0 0), (6, .mptr 1 0), (56, .sl (p1.Funs.map Api.Fun.c)), (57, .int .i64 (p1.Funs.length : Int)), (58, .int .i64 ((i62 : Nat) : Int)), (64, .int .i64 (x71.Code.length : Int)), (65, .int .i64 ((i73 + 1 : Nat) : Int))] [(Api.Program.c p1), (Api.Fun.c x71)] ?_ fun zz hs => ?_
            · refine st ?_
              simp [q87]
            exact ⟨(k78, i73 + 1), hs, l76, by simp⟩
          have c89 := ltF g79
          refine condF rfl g79 ?_
          refine factCL 1 3 rfl rfl rfl fun f90 => ?_
          rw [List.length_map] at f90
          refine awp_exit ?_
          refine exit_seq ?_
          rcases o75 with o75 | o74
          · cases l76
          have q91 := Sum.inr.inj (Option.some.inj l76)
          replace l65 := elimR l65
          refine exit_seq ?_
          refine exit_blk ?_
          refine blk_n ?_
          refine seq_le (t := mkS 92 0 [(1, .mptr 0 0), (56, .sl (p1.Funs.map Api.Fun.c)), (57, .int .i64 (p1.Funs.length : Int)), (58, .int .i64 ((i62 : Nat) : Int))] [(Api.Program.c p1), (Api.Fun.c x71)]) ?_ (le_mkS (by simp []))
          have q92 : Rng .i64 (((i62 : Nat) : Int) + 1) := by simp only [Rng, inR]; omega
          try simp at q92
          refine last 92 0 [(1, .mptr 0 0), (56, .sl (p1.Funs.map Api.Fun.c)), (57, .int .i64 (p1.Funs.length : Int)), (58, .int .i64 ((i62 + 1 : Nat) : Int))] [(Api.Program.c p1)] ?_ fun zz hs => ?_
          · refine st ?_
            simp [q92]
          exact ⟨(k67, i62 + 1), hs, l65, by simp⟩
      have c93 := ltF g68
      refine condF rfl g68 ?_
      refine factL 56 rfl fun f94 => ?_
      rw [List.length_map] at f94
      refine awp_exit ?_
      refine exit_seq ?_
      rcases o64 with o64 | o63
      · cases l65
      have q95 := Sum.inr.inj (Option.some.inj l65)
      replace h := elimR h
      refine exit_seq ?_
      refine exit_blk ?_
      refine seq_le (t := mkS 92 0 [(1, .mptr 0 0)] [(Api.Program.c p1)]) ?_ (le_mkS (by simp []))
      obtain ⟨b108, q109, h⟩ := bs h
      refine cut 92 0 [(2, .bool b108)] [(Api.Program.c p1)] ?_ ?_
      · obtain ⟨n96, q97, q109⟩ := bs q109
        obtain ⟨q98, q99⟩ := chk_ok q97
        try simp at q98
        try simp at q99
        have c100 := q98; simp only [Rng, inR] at c100
        obtain ⟨v101, q102, q109⟩ := bs q109
        rcases sp q109 with ⟨g103, q109⟩ | ⟨g103, q109⟩
        · obtain ⟨x104, q105, q109⟩ := bs q109
          obtain ⟨q106, q107⟩ := idx_ok q105
          obtain rfl := oi q109
          refine st ?_
          simp [q98, q99, g103, q106, q107]
          have r110 := bytecode_within_ok p1.Main 0 n96 v101 q102
          try simp [q98, q99, g103, q106, q107] at r110
          refine callPure r110 (by simp) rfl ?_
          simp [q98, q99, g103, q106, q107]
        obtain rfl := oi q109
        refine st ?_
        simp [q98, q99, g103]
        have r111 := bytecode_within_ok p1.Main 0 n96 v101 q102
        try simp [q98, q99, g103] at r111
        refine callPure r111 (by simp) rfl ?_
        simp [q98, q99, g103]
      refine awp_ret ?_
      obtain rfl := oi h
      simp
end Go.Proofs.Ythbjlmoaceaeeaa

set_option linter.unusedVariables false
set_option linter.unusedSimpArgs false
set_option maxRecDepth 100000
set_option maxHeartbeats 1000000
namespace Go.Proofs.Ythbjlmoaceaeeaa
open Go Go.Abs
def M.Blk.c : M.Blk → List AV
  | .r l => row cB l
  | .i x => x.c
@[simp] theorem blk_r (l : List Bool) : (M.Blk.r l).c = row cB l := rfl
@[simp] theorem blk_i (x : Api.Instr) : (M.Blk.i x).c = x.c := rfl
def sc (L : Nat) : Option Nat → AV
  | none => .sl []
  | some k => .msl (k + 4) 1 L
@[simp] def M.VS.st (s : M.VS) : List AV := [.int .i64 s.f.Captures, .int .i64 s.f.Locals, .int .i64 s.f.Depth, .sl (s.f.Code.map Api.Instr.c), .msl 1 1 s.D.length, .msl 2 1 s.S.length, .osq ⟨1, 3⟩ (s.Q.map (cI .i64))]
@[simp] def M.VS.blks (L : Nat) (s : M.VS) : List (List AV) := s.f.c :: row (cI .i64) s.D :: s.S.map (sc L) :: s.st :: s.R.map M.Blk.c
attribute [simp] M.VS.add
theorem rowOf_ok {R : List M.Blk} {k : Nat} {l : List Bool} (h : M.rowOf R k = some l) : R[k]? = some (.r l) := by
  unfold M.rowOf at h
  split at h
  · rename_i l' hk; cases h; exact hk
  · cases h
theorem getE {α : Type} {l : List α} {k : Nat} {x : α} (h : l[k]? = some x) : ∀ hi : k < l.length, l[k]'hi = x := fun hi => by rw [List.getElem?_eq_getElem hi] at h; exact Option.some.inj h
theorem blk_get {R : List M.Blk} {k : Nat} {b : M.Blk} (h : R[k]? = some b) : (R.map M.Blk.c)[k]? = some b.c := by rw [List.getElem?_map, h]; rfl
theorem blk_getD {R : List M.Blk} {k : Nat} {b : M.Blk} (h : R[k]? = some b) (d : List AV) : (R.map M.Blk.c).getD k d = b.c := by
  rw [List.getD_eq_getElem?_getD, blk_get h]; rfl
theorem blk_set (R : List M.Blk) (k : Nat) (b : M.Blk) : (R.map M.Blk.c).set k b.c = (R.set k b).map M.Blk.c := by rw [List.map_set]
theorem sc_drop (L : Nat) {S : List (Option Nat)} {i : Nat} {o : Option Nat} (h : S[i]? = some o) : (S.map (sc L)).drop i = sc L o :: (S.drop (i + 1)).map (sc L) := by
  obtain ⟨h1, h2⟩ := List.getElem?_eq_some_iff.1 h
  rw [← List.map_drop, List.drop_eq_getElem_cons h1, h2]; rfl
theorem sc_set (L : Nat) (S : List (Option Nat)) (i k : Nat) : (S.map (sc L)).set i (.msl (k + 4) 1 L) = (S.set i (some k)).map (sc L) := by rw [List.map_set]; rfl
theorem rdI {k : IntKind} {l : List Int} {i : Nat} {x : Int} (h : l[i]? = some x) : (row (cI k) l).drop i = [.int k x] ++ row (cI k) (l.drop (i + 1)) ∧ (row (cI k) l)[i]? = some (.int k x) ∧ ∀ hi : i < (row (cI k) l).length, (row (cI k) l)[i]'hi = .int k x :=
  ⟨row_drop1 (rc_I k) h, row_get1 (rc_I k) h, row_getE1 (rc_I k) h⟩
theorem rdB {l : List Bool} {i : Nat} {x : Bool} (h : l[i]? = some x) : (row cB l).drop i = [.bool x] ++ row cB (l.drop (i + 1)) ∧ (row cB l)[i]? = some (.bool x) ∧ ∀ hi : i < (row cB l).length, (row cB l)[i]'hi = .bool x :=
  ⟨row_drop1 rc_B h, row_get1 rc_B h, row_getE1 rc_B h⟩
theorem rdS {L : Nat} {S : List (Option Nat)} {i k : Nat} (h : S[i]? = some (some k)) : (S.map (sc L)).drop i = .msl (k + 4) 1 L :: (S.drop (i + 1)).map (sc L) ∧ (S.map (sc L))[i]? = some (.msl (k + 4) 1 L) ∧ ∀ hi : i < (S.map (sc L)).length, (S.map (sc L))[i]'hi = .msl (k + 4) 1 L := by
  refine ⟨sc_drop L h, by rw [List.getElem?_map, h]; rfl, fun hi => ?_⟩
  have h1 : (S.map (sc L))[i]? = some (.msl (k + 4) 1 L) := by rw [List.getElem?_map, h]; rfl
  rw [List.getElem?_eq_getElem hi] at h1; exact Option.some.inj h1
@[simp] theorem leAV_refl (x : AV) : leAV x x := by cases x <;> simp
@[simp] theorem leCells_refl : ∀ l : List AV, leCells l l
  | [] => trivial
  | x :: l => ⟨leAV_refl x, .inr rfl, leCells_refl l⟩
@[simp] theorem leBlocks_refl : ∀ l : List (List AV), leBlocks l l
  | [] => by simp
  | x :: l => by simp [leBlocks_refl l]
theorem leBlocks_nil (l : List (List AV)) : leBlocks l [] := by cases l <;> trivial
theorem cutE {α : Type} {P : Program} {x y : Code} {Q : Exit → AState → Prop} {s : AState} (n base : Nat) (live : α → List (Nat × AV)) (blocks : α → List (List AV)) (H : α → Prop)
    (h2 : ∀ a, H a → AWp P y Q (mkS n base (live a) (blocks a))) (h1 : ∃ a, H a ∧ AWp P x (cutK n base (live a) (blocks a) Q) s) : AWp P (.seq x y) Q s := by
  obtain ⟨a, h3, h4⟩ := h1
  exact cut n base (live a) (blocks a) h4 (h2 a h3)
theorem meet_f {L : Nat} {s : M.VS} {at1 depth : Int} {set : Nat} {b : Bool} {s' : M.VS} (h : M.verify_meet L s at1 depth set = some (b, s')) : s'.f = s.f := by
  rw [M.verify_meet] at h
  obtain ⟨u1, q1, h⟩ := bs h
  obtain ⟨d, q2, h⟩ := bs h
  rcases sp h with ⟨_, h⟩ | ⟨_, h⟩
  · obtain ⟨u7, q7, h⟩ := bs h
    obtain ⟨l, q8, h⟩ := bs h
    obtain ⟨l1, q9, h⟩ := bs h
    obtain ⟨u10, q10, h⟩ := bs h
    obtain ⟨q, q11, h⟩ := bs h
    cases h; rfl
  rcases sp h with ⟨_, h⟩ | ⟨_, h⟩
  · cases h; rfl
  obtain ⟨u8, q8, h⟩ := bs h
  obtain ⟨o, q9, h⟩ := bs h
  obtain ⟨k, _, h⟩ := bs h
  obtain ⟨p, _, h⟩ := bs h
  rcases sp h with ⟨_, h⟩ | ⟨_, h⟩
  · obtain ⟨q, q11, h⟩ := bs h
    cases h; rfl
  · cases h; rfl
theorem meet_l_len {set k : Nat} : ∀ {n i : Nat} {R : List M.Blk} {ch : Bool} {p : List M.Blk × Bool}, M.verify_meet_l set k n i R ch = some p → p.1.length = R.length
  | 0, i, R, ch, p, h => by rw [M.verify_meet_l] at h; cases h; rfl
  | n + 1, i, R, ch, p, h => by
    rw [M.verify_meet_l] at h
    obtain ⟨r, _, h⟩ := bs h
    obtain ⟨x, _, h⟩ := bs h
    rcases sp h with ⟨_, h⟩ | ⟨_, h⟩
    · obtain ⟨r2, _, h⟩ := bs h
      obtain ⟨y, _, h⟩ := bs h
      rcases sp h with ⟨_, h⟩ | ⟨_, h⟩
      · rw [meet_l_len h, List.length_set]
      · exact meet_l_len h
    · exact meet_l_len h
theorem meet_len {L : Nat} {s : M.VS} {at1 depth : Int} {set : Nat} {b : Bool} {s' : M.VS} (h : M.verify_meet L s at1 depth set = some (b, s')) : s.R.length ≤ s'.R.length := by
  rw [M.verify_meet] at h
  obtain ⟨u1, q1, h⟩ := bs h
  obtain ⟨d, q2, h⟩ := bs h
  rcases sp h with ⟨_, h⟩ | ⟨_, h⟩
  · obtain ⟨u7, q7, h⟩ := bs h
    obtain ⟨l, q8, h⟩ := bs h
    obtain ⟨l1, q9, h⟩ := bs h
    obtain ⟨u10, q10, h⟩ := bs h
    obtain ⟨q, q11, h⟩ := bs h
    cases h; simp
  rcases sp h with ⟨_, h⟩ | ⟨_, h⟩
  · cases h; simp
  obtain ⟨u8, q8, h⟩ := bs h
  obtain ⟨o, q9, h⟩ := bs h
  obtain ⟨k, _, h⟩ := bs h
  obtain ⟨p, hp, h⟩ := bs h
  have := meet_l_len hp
  rcases sp h with ⟨_, h⟩ | ⟨_, h⟩
  · obtain ⟨q, q11, h⟩ := bs h
    cases h; simp [this]
  · cases h; simp [this]
theorem clone_ok (l : List Bool) (r : List Bool) (h : clC 1 l = some r) (L : Nat) (hL : lenN r L = some ()) : Raw Try.prog 130 [.msl 0 1 L] [row cB l] (.msl 1 1 L) [row cB l, row cB r] := by
  refine raw_of_bodyB Try.func130 (by rfl) (by rfl) (by simp) (by simp) ?_
  refine cut 8 1 [(0, .msl 0 1 L)] [row cB l] ?_ ?_
  · refine st ?_
    simp
  refine awp_seq ?_
  refine cut 8 1 [(0, .msl 0 1 L), (4, .bool false)] [row cB l] ?_ ?_
  · refine st ?_
    simp
  refine condF rfl rfl ?_
  refine awp_skip ?_
  refine seq_eq ?_
  obtain ⟨q7, q8⟩ := clC_ok h
  have q9 := clC_row cB r
  have q10 := lenN_ok hL
  refine cut 8 1 [(2, .msl 1 1 L)] [row cB l, row cB r] ?_ ?_
  · subst q8
    refine st ?_
    simp [q7, q9, q10]
    refine empR ?_
    simp [← q10, q7, q9]
  refine awp_ret ?_
  simp
@[simp] theorem blks_len (L : Nat) (s : M.VS) : (s.blks L).length = s.R.length + 4 := by simp
theorem add_blks (L : Nat) (s : M.VS) (b : M.Blk) : (s.add b).blks L = s.blks L ++ [b.c] := by simp
theorem clone_at (s : M.VS) (k : Nat) (l r : List Bool) (L : Nat) (hk : M.rowOf s.R k = some l) (h : clC 1 l = some r) (hL : lenN r L = some ()) :
    Raw Try.prog 130 [.msl (k + 4) 1 L] (s.blks L) (.msl (s.R.length + 4) 1 L) ((s.add (.r r)).blks L) := by
  have h1 := rowOf_ok hk
  have h2 : (s.blks L)[k + 4]? = some (row cB l) := by simp only [M.VS.blks, List.getElem?_cons_succ]; exact blk_get h1
  have h3 := (clone_ok l r h L hL).frame [k + 4] (s.blks L) ⟨by simp [noDup], by simp [AV.underL, AV.under], by simp [underBlocks], by simp only [Stands, rren_B]; exact ⟨h2, trivial⟩⟩
  have h4 : (s.blks L).set (k + 4) (row cB l) = s.blks L := by
    obtain ⟨h5, h6⟩ := List.getElem?_eq_some_iff.1 h2
    rw [← h6]; exact List.set_getElem_self h5
  simp only [lay, rren_B, h4, List.map_cons, List.map_nil, AV.renL, AV.ren, place] at h3
  rw [add_blks]
  simpa using h3
theorem meet_ok (L : Nat) (s : M.VS) (at1 depth : Int) (set : Nat) (b : Bool) (s' : M.VS) (h : M.verify_meet L s at1 depth set = some (b, s')) :
    Raw Try.prog 90 [.mptr 3 0, .int .i64 at1, .int .i64 depth, .msl (set + 4) 1 L] (s.blks L) (.bool b) (s'.blks L) := by
  rw [M.verify_meet] at h
  refine raw_of_bodyB Try.func90 (by rfl) (by rfl) (by simp) (by simp) ?_
  rw [blks_len]
  refine cut 96 (s.R.length + 4) [(0, .mptr 3 0), (1, .int .i64 at1), (2, .int .i64 depth), (3, .msl (set + 4) 1 L)] (s.blks L) ?_ ?_
  · refine st ?_
    simp
  obtain ⟨u1, q1, h⟩ := bs h
  obtain ⟨d, q2, h⟩ := bs h
  have q3 := ixC_ok q1
  have q4 := ixC_nat q1
  have q5 := rdI (k := .i64) q2
  refine awp_seq ?_
  refine cut 96 (s.R.length + 4) [(0, .mptr 3 0), (1, .int .i64 at1), (2, .int .i64 depth), (3, .msl (set + 4) 1 L), (19, .bool (ltI d 0))] (s.blks L) ?_ ?_
  · refine st ?_
    simp [q3, q2, q4, q5]
  refine spc h rfl (fun g6 h => ?_) fun g6 h => ?_
  · obtain ⟨u7, q7, h⟩ := bs h
    obtain ⟨l, q8, h⟩ := bs h
    obtain ⟨l1, q9, h⟩ := bs h
    obtain ⟨u10, q10, h⟩ := bs h
    obtain ⟨q, q11, h⟩ := bs h
    have q12 := ixC_ok q7
    have q13 := ixC_nat q7
    obtain ⟨q14, q15⟩ := app_ok q11
    simp at q14
    have q16 := sc_set L s.S at1.toNat s.R.length
    have q17 := row_set1 (rc_I .i64) s.D at1.toNat (x := depth) (y := .int .i64 depth) rfl
    refine cut 96 (s.R.length + 4) [(0, .mptr 3 0), (1, .int .i64 at1)] ((⟨s.f, s.D.set at1.toNat depth, s.S.set at1.toNat (some s.R.length), s.R ++ [.r l1], s.Q⟩ : M.VS).blks L) ?_ ?_
    · refine awp_region_free mixed 15 (fun ℓ z => z.n = 96 ∧ z.base = s.R.length + 4 ∧ (∀ t, z.loans t = none) ∧ (ℓ 12 = false → z.blocks = s.blks L) ∧ (ℓ 12 = true → ℓ 14 = false → z.blocks = (s.add (.r l1)).blks L) ∧ (ℓ 14 = true → ℓ 12 = true ∧ z.blocks = (⟨s.f, s.D.set at1.toNat depth, s.S, s.R ++ [.r l1], s.Q⟩ : M.VS).blks L) ∧ z.get 0 = .mptr 3 0 ∧ z.get 1 = .int .i64 at1 ∧ z.get 2 = .int .i64 depth ∧ z.get 3 = .msl (set + 4) 1 L ∧ (ℓ 0 = true → z.get 20 = .mptr 3 0) ∧ (ℓ 1 = true → z.get 21 = .mptr 3 0) ∧ (ℓ 2 = true → z.get 22 = .mptr 3 4) ∧ (ℓ 3 = true → z.get 23 = .msl 1 1 s.D.length) ∧ (ℓ 4 = true → z.get 24 = .int .i64 at1) ∧ (ℓ 5 = true → z.get 25 = .mptr 3 0) ∧ (ℓ 6 = true → z.get 26 = .mptr 3 0) ∧ (ℓ 7 = true → z.get 27 = .mptr 3 5) ∧ (ℓ 8 = true → z.get 28 = .msl 2 1 s.S.length) ∧ (ℓ 9 = true → z.get 29 = .int .i64 at1) ∧ (ℓ 10 = true → z.get 30 = .int .i64 depth) ∧ (ℓ 11 = true → z.get 31 = .msl (set + 4) 1 L) ∧ (ℓ 12 = true → z.get 32 = .msl (s.R.length + 4) 1 L) ∧ (ℓ 13 = true → z.get 33 = .mptr 1 at1.toNat)) (by decide) (by simp) ?_ ?_
      · refine ⟨?_, ?_, ?_, ?_, ?_, ?_, ?_, ?_, ?_, ?_, ?_, ?_, ?_, ?_, ?_, trivial⟩
        · intro ℓ z hL he hI
          obtain ⟨n1, n2, n3, b0, b1, b2, w0, w1, w2, w3, v0, v1, v2, v3, v4, v5, v6, v7, v8, v9, v10, v11, v12, v13⟩ := hI
          try simp at hL
          cases hc : ℓ 12 with
          | false =>
            have hd : ℓ 14 = false := by cases hd : ℓ 14 with | false => rfl | true => (have := (b2 hd).1; rw [hc] at this; cases this)
            have hk := b0 hc
            simp [hk, hc, hd, q3, q4, n1, n2, n3, w0, w1, w2, w3, v0, v1, v2, v3, v4, v5, v6, v7, v8, v9, v10, v11, v12, v13]
            repeat' (first | exact v0 | exact v1 | exact v2 | exact v3 | exact v4 | exact v5 | exact v6 | exact v7 | exact v8 | exact v9 | exact v10 | exact v11 | exact v12 | exact v13 | refine And.intro ?_ ?_)
          | true =>
            cases hd : ℓ 14 with
            | false =>
              have hk := b1 hc hd
              simp [hk, hc, hd, q3, q4, n1, n2, n3, w0, w1, w2, w3, v0, v1, v2, v3, v4, v5, v6, v7, v8, v9, v10, v11, v12, v13]
              repeat' (first | exact v0 | exact v1 | exact v2 | exact v3 | exact v4 | exact v5 | exact v6 | exact v7 | exact v8 | exact v9 | exact v10 | exact v11 | exact v12 | exact v13 | refine And.intro ?_ ?_)
            | true =>
              have hk := (b2 hd).2
              simp [hk, hc, hd, q3, q4, n1, n2, n3, w0, w1, w2, w3, v0, v1, v2, v3, v4, v5, v6, v7, v8, v9, v10, v11, v12, v13]
              repeat' (first | exact v0 | exact v1 | exact v2 | exact v3 | exact v4 | exact v5 | exact v6 | exact v7 | exact v8 | exact v9 | exact v10 | exact v11 | exact v12 | exact v13 | refine And.intro ?_ ?_)
        · intro ℓ z hL he hI
          obtain ⟨n1, n2, n3, b0, b1, b2, w0, w1, w2, w3, v0, v1, v2, v3, v4, v5, v6, v7, v8, v9, v10, v11, v12, v13⟩ := hI
          replace v0 := v0 ((List.all_eq_true.1 he) 0 (by decide))
          try simp at hL
          cases hc : ℓ 12 with
          | false =>
            have hd : ℓ 14 = false := by cases hd : ℓ 14 with | false => rfl | true => (have := (b2 hd).1; rw [hc] at this; cases this)
            have hk := b0 hc
            simp [hk, hc, hd, q3, q4, n1, n2, n3, w0, w1, w2, w3, v0, v1, v2, v3, v4, v5, v6, v7, v8, v9, v10, v11, v12, v13]
            repeat' (first | exact v0 | exact v1 | exact v2 | exact v3 | exact v4 | exact v5 | exact v6 | exact v7 | exact v8 | exact v9 | exact v10 | exact v11 | exact v12 | exact v13 | refine And.intro ?_ ?_)
          | true =>
            cases hd : ℓ 14 with
            | false =>
              have hk := b1 hc hd
              simp [hk, hc, hd, q3, q4, n1, n2, n3, w0, w1, w2, w3, v0, v1, v2, v3, v4, v5, v6, v7, v8, v9, v10, v11, v12, v13]
              repeat' (first | exact v0 | exact v1 | exact v2 | exact v3 | exact v4 | exact v5 | exact v6 | exact v7 | exact v8 | exact v9 | exact v10 | exact v11 | exact v12 | exact v13 | refine And.intro ?_ ?_)
            | true =>
              have hk := (b2 hd).2
              simp [hk, hc, hd, q3, q4, n1, n2, n3, w0, w1, w2, w3, v0, v1, v2, v3, v4, v5, v6, v7, v8, v9, v10, v11, v12, v13]
              repeat' (first | exact v0 | exact v1 | exact v2 | exact v3 | exact v4 | exact v5 | exact v6 | exact v7 | exact v8 | exact v9 | exact v10 | exact v11 | exact v12 | exact v13 | refine And.intro ?_ ?_)
        · intro ℓ z hL he hI
          obtain ⟨n1, n2, n3, b0, b1, b2, w0, w1, w2, w3, v0, v1, v2, v3, v4, v5, v6, v7, v8, v9, v10, v11, v12, v13⟩ := hI
          replace v1 := v1 ((List.all_eq_true.1 he) 1 (by decide))
          try simp at hL
          cases hc : ℓ 12 with
          | false =>
            have hd : ℓ 14 = false := by cases hd : ℓ 14 with | false => rfl | true => (have := (b2 hd).1; rw [hc] at this; cases this)
            have hk := b0 hc
            simp [hk, hc, hd, q3, q4, n1, n2, n3, w0, w1, w2, w3, v0, v1, v2, v3, v4, v5, v6, v7, v8, v9, v10, v11, v12, v13]
            repeat' (first | exact v0 | exact v1 | exact v2 | exact v3 | exact v4 | exact v5 | exact v6 | exact v7 | exact v8 | exact v9 | exact v10 | exact v11 | exact v12 | exact v13 | refine And.intro ?_ ?_)
          | true =>
            cases hd : ℓ 14 with
            | false =>
              have hk := b1 hc hd
              simp [hk, hc, hd, q3, q4, n1, n2, n3, w0, w1, w2, w3, v0, v1, v2, v3, v4, v5, v6, v7, v8, v9, v10, v11, v12, v13]
              repeat' (first | exact v0 | exact v1 | exact v2 | exact v3 | exact v4 | exact v5 | exact v6 | exact v7 | exact v8 | exact v9 | exact v10 | exact v11 | exact v12 | exact v13 | refine And.intro ?_ ?_)
            | true =>
              have hk := (b2 hd).2
              simp [hk, hc, hd, q3, q4, n1, n2, n3, w0, w1, w2, w3, v0, v1, v2, v3, v4, v5, v6, v7, v8, v9, v10, v11, v12, v13]
              repeat' (first | exact v0 | exact v1 | exact v2 | exact v3 | exact v4 | exact v5 | exact v6 | exact v7 | exact v8 | exact v9 | exact v10 | exact v11 | exact v12 | exact v13 | refine And.intro ?_ ?_)
        · intro ℓ z hL he hI
          obtain ⟨n1, n2, n3, b0, b1, b2, w0, w1, w2, w3, v0, v1, v2, v3, v4, v5, v6, v7, v8, v9, v10, v11, v12, v13⟩ := hI
          replace v2 := v2 ((List.all_eq_true.1 he) 2 (by decide))
          try simp at hL
          cases hc : ℓ 12 with
          | false =>
            have hd : ℓ 14 = false := by cases hd : ℓ 14 with | false => rfl | true => (have := (b2 hd).1; rw [hc] at this; cases this)
            have hk := b0 hc
            simp [hk, hc, hd, q3, q4, n1, n2, n3, w0, w1, w2, w3, v0, v1, v2, v3, v4, v5, v6, v7, v8, v9, v10, v11, v12, v13]
            repeat' (first | exact v0 | exact v1 | exact v2 | exact v3 | exact v4 | exact v5 | exact v6 | exact v7 | exact v8 | exact v9 | exact v10 | exact v11 | exact v12 | exact v13 | refine And.intro ?_ ?_)
          | true =>
            cases hd : ℓ 14 with
            | false =>
              have hk := b1 hc hd
              simp [hk, hc, hd, q3, q4, n1, n2, n3, w0, w1, w2, w3, v0, v1, v2, v3, v4, v5, v6, v7, v8, v9, v10, v11, v12, v13]
              repeat' (first | exact v0 | exact v1 | exact v2 | exact v3 | exact v4 | exact v5 | exact v6 | exact v7 | exact v8 | exact v9 | exact v10 | exact v11 | exact v12 | exact v13 | refine And.intro ?_ ?_)
            | true =>
              have hk := (b2 hd).2
              simp [hk, hc, hd, q3, q4, n1, n2, n3, w0, w1, w2, w3, v0, v1, v2, v3, v4, v5, v6, v7, v8, v9, v10, v11, v12, v13]
              repeat' (first | exact v0 | exact v1 | exact v2 | exact v3 | exact v4 | exact v5 | exact v6 | exact v7 | exact v8 | exact v9 | exact v10 | exact v11 | exact v12 | exact v13 | refine And.intro ?_ ?_)
        · intro ℓ z hL he hI
          obtain ⟨n1, n2, n3, b0, b1, b2, w0, w1, w2, w3, v0, v1, v2, v3, v4, v5, v6, v7, v8, v9, v10, v11, v12, v13⟩ := hI
          try simp at hL
          cases hc : ℓ 12 with
          | false =>
            have hd : ℓ 14 = false := by cases hd : ℓ 14 with | false => rfl | true => (have := (b2 hd).1; rw [hc] at this; cases this)
            have hk := b0 hc
            simp [hk, hc, hd, q3, q4, n1, n2, n3, w0, w1, w2, w3, v0, v1, v2, v3, v4, v5, v6, v7, v8, v9, v10, v11, v12, v13]
            repeat' (first | exact v0 | exact v1 | exact v2 | exact v3 | exact v4 | exact v5 | exact v6 | exact v7 | exact v8 | exact v9 | exact v10 | exact v11 | exact v12 | exact v13 | refine And.intro ?_ ?_)
          | true =>
            cases hd : ℓ 14 with
            | false =>
              have hk := b1 hc hd
              simp [hk, hc, hd, q3, q4, n1, n2, n3, w0, w1, w2, w3, v0, v1, v2, v3, v4, v5, v6, v7, v8, v9, v10, v11, v12, v13]
              repeat' (first | exact v0 | exact v1 | exact v2 | exact v3 | exact v4 | exact v5 | exact v6 | exact v7 | exact v8 | exact v9 | exact v10 | exact v11 | exact v12 | exact v13 | refine And.intro ?_ ?_)
            | true =>
              have hk := (b2 hd).2
              simp [hk, hc, hd, q3, q4, n1, n2, n3, w0, w1, w2, w3, v0, v1, v2, v3, v4, v5, v6, v7, v8, v9, v10, v11, v12, v13]
              repeat' (first | exact v0 | exact v1 | exact v2 | exact v3 | exact v4 | exact v5 | exact v6 | exact v7 | exact v8 | exact v9 | exact v10 | exact v11 | exact v12 | exact v13 | refine And.intro ?_ ?_)
        · intro ℓ z hL he hI
          obtain ⟨n1, n2, n3, b0, b1, b2, w0, w1, w2, w3, v0, v1, v2, v3, v4, v5, v6, v7, v8, v9, v10, v11, v12, v13⟩ := hI
          try simp at hL
          cases hc : ℓ 12 with
          | false =>
            have hd : ℓ 14 = false := by cases hd : ℓ 14 with | false => rfl | true => (have := (b2 hd).1; rw [hc] at this; cases this)
            have hk := b0 hc
            simp [hk, hc, hd, q3, q4, n1, n2, n3, w0, w1, w2, w3, v0, v1, v2, v3, v4, v5, v6, v7, v8, v9, v10, v11, v12, v13]
            repeat' (first | exact v0 | exact v1 | exact v2 | exact v3 | exact v4 | exact v5 | exact v6 | exact v7 | exact v8 | exact v9 | exact v10 | exact v11 | exact v12 | exact v13 | refine And.intro ?_ ?_)
          | true =>
            cases hd : ℓ 14 with
            | false =>
              have hk := b1 hc hd
              simp [hk, hc, hd, q3, q4, n1, n2, n3, w0, w1, w2, w3, v0, v1, v2, v3, v4, v5, v6, v7, v8, v9, v10, v11, v12, v13]
              repeat' (first | exact v0 | exact v1 | exact v2 | exact v3 | exact v4 | exact v5 | exact v6 | exact v7 | exact v8 | exact v9 | exact v10 | exact v11 | exact v12 | exact v13 | refine And.intro ?_ ?_)
            | true =>
              have hk := (b2 hd).2
              simp [hk, hc, hd, q3, q4, n1, n2, n3, w0, w1, w2, w3, v0, v1, v2, v3, v4, v5, v6, v7, v8, v9, v10, v11, v12, v13]
              repeat' (first | exact v0 | exact v1 | exact v2 | exact v3 | exact v4 | exact v5 | exact v6 | exact v7 | exact v8 | exact v9 | exact v10 | exact v11 | exact v12 | exact v13 | refine And.intro ?_ ?_)
        · intro ℓ z hL he hI
          obtain ⟨n1, n2, n3, b0, b1, b2, w0, w1, w2, w3, v0, v1, v2, v3, v4, v5, v6, v7, v8, v9, v10, v11, v12, v13⟩ := hI
          replace v5 := v5 ((List.all_eq_true.1 he) 5 (by decide))
          try simp at hL
          cases hc : ℓ 12 with
          | false =>
            have hd : ℓ 14 = false := by cases hd : ℓ 14 with | false => rfl | true => (have := (b2 hd).1; rw [hc] at this; cases this)
            have hk := b0 hc
            simp [hk, hc, hd, q3, q4, n1, n2, n3, w0, w1, w2, w3, v0, v1, v2, v3, v4, v5, v6, v7, v8, v9, v10, v11, v12, v13]
            repeat' (first | exact v0 | exact v1 | exact v2 | exact v3 | exact v4 | exact v5 | exact v6 | exact v7 | exact v8 | exact v9 | exact v10 | exact v11 | exact v12 | exact v13 | refine And.intro ?_ ?_)
          | true =>
            cases hd : ℓ 14 with
            | false =>
              have hk := b1 hc hd
              simp [hk, hc, hd, q3, q4, n1, n2, n3, w0, w1, w2, w3, v0, v1, v2, v3, v4, v5, v6, v7, v8, v9, v10, v11, v12, v13]
              repeat' (first | exact v0 | exact v1 | exact v2 | exact v3 | exact v4 | exact v5 | exact v6 | exact v7 | exact v8 | exact v9 | exact v10 | exact v11 | exact v12 | exact v13 | refine And.intro ?_ ?_)
            | true =>
              have hk := (b2 hd).2
              simp [hk, hc, hd, q3, q4, n1, n2, n3, w0, w1, w2, w3, v0, v1, v2, v3, v4, v5, v6, v7, v8, v9, v10, v11, v12, v13]
              repeat' (first | exact v0 | exact v1 | exact v2 | exact v3 | exact v4 | exact v5 | exact v6 | exact v7 | exact v8 | exact v9 | exact v10 | exact v11 | exact v12 | exact v13 | refine And.intro ?_ ?_)
        · intro ℓ z hL he hI
          obtain ⟨n1, n2, n3, b0, b1, b2, w0, w1, w2, w3, v0, v1, v2, v3, v4, v5, v6, v7, v8, v9, v10, v11, v12, v13⟩ := hI
          replace v6 := v6 ((List.all_eq_true.1 he) 6 (by decide))
          try simp at hL
          cases hc : ℓ 12 with
          | false =>
            have hd : ℓ 14 = false := by cases hd : ℓ 14 with | false => rfl | true => (have := (b2 hd).1; rw [hc] at this; cases this)
            have hk := b0 hc
            simp [hk, hc, hd, q3, q4, n1, n2, n3, w0, w1, w2, w3, v0, v1, v2, v3, v4, v5, v6, v7, v8, v9, v10, v11, v12, v13]
            repeat' (first | exact v0 | exact v1 | exact v2 | exact v3 | exact v4 | exact v5 | exact v6 | exact v7 | exact v8 | exact v9 | exact v10 | exact v11 | exact v12 | exact v13 | refine And.intro ?_ ?_)
          | true =>
            cases hd : ℓ 14 with
            | false =>
              have hk := b1 hc hd
              simp [hk, hc, hd, q3, q4, n1, n2, n3, w0, w1, w2, w3, v0, v1, v2, v3, v4, v5, v6, v7, v8, v9, v10, v11, v12, v13]
              repeat' (first | exact v0 | exact v1 | exact v2 | exact v3 | exact v4 | exact v5 | exact v6 | exact v7 | exact v8 | exact v9 | exact v10 | exact v11 | exact v12 | exact v13 | refine And.intro ?_ ?_)
            | true =>
              have hk := (b2 hd).2
              simp [hk, hc, hd, q3, q4, n1, n2, n3, w0, w1, w2, w3, v0, v1, v2, v3, v4, v5, v6, v7, v8, v9, v10, v11, v12, v13]
              repeat' (first | exact v0 | exact v1 | exact v2 | exact v3 | exact v4 | exact v5 | exact v6 | exact v7 | exact v8 | exact v9 | exact v10 | exact v11 | exact v12 | exact v13 | refine And.intro ?_ ?_)
        · intro ℓ z hL he hI
          obtain ⟨n1, n2, n3, b0, b1, b2, w0, w1, w2, w3, v0, v1, v2, v3, v4, v5, v6, v7, v8, v9, v10, v11, v12, v13⟩ := hI
          replace v7 := v7 ((List.all_eq_true.1 he) 7 (by decide))
          try simp at hL
          cases hc : ℓ 12 with
          | false =>
            have hd : ℓ 14 = false := by cases hd : ℓ 14 with | false => rfl | true => (have := (b2 hd).1; rw [hc] at this; cases this)
            have hk := b0 hc
            simp [hk, hc, hd, q3, q4, n1, n2, n3, w0, w1, w2, w3, v0, v1, v2, v3, v4, v5, v6, v7, v8, v9, v10, v11, v12, v13]
            repeat' (first | exact v0 | exact v1 | exact v2 | exact v3 | exact v4 | exact v5 | exact v6 | exact v7 | exact v8 | exact v9 | exact v10 | exact v11 | exact v12 | exact v13 | refine And.intro ?_ ?_)
          | true =>
            cases hd : ℓ 14 with
            | false =>
              have hk := b1 hc hd
              simp [hk, hc, hd, q3, q4, n1, n2, n3, w0, w1, w2, w3, v0, v1, v2, v3, v4, v5, v6, v7, v8, v9, v10, v11, v12, v13]
              repeat' (first | exact v0 | exact v1 | exact v2 | exact v3 | exact v4 | exact v5 | exact v6 | exact v7 | exact v8 | exact v9 | exact v10 | exact v11 | exact v12 | exact v13 | refine And.intro ?_ ?_)
            | true =>
              have hk := (b2 hd).2
              simp [hk, hc, hd, q3, q4, n1, n2, n3, w0, w1, w2, w3, v0, v1, v2, v3, v4, v5, v6, v7, v8, v9, v10, v11, v12, v13]
              repeat' (first | exact v0 | exact v1 | exact v2 | exact v3 | exact v4 | exact v5 | exact v6 | exact v7 | exact v8 | exact v9 | exact v10 | exact v11 | exact v12 | exact v13 | refine And.intro ?_ ?_)
        · intro ℓ z hL he hI
          obtain ⟨n1, n2, n3, b0, b1, b2, w0, w1, w2, w3, v0, v1, v2, v3, v4, v5, v6, v7, v8, v9, v10, v11, v12, v13⟩ := hI
          try simp at hL
          cases hc : ℓ 12 with
          | false =>
            have hd : ℓ 14 = false := by cases hd : ℓ 14 with | false => rfl | true => (have := (b2 hd).1; rw [hc] at this; cases this)
            have hk := b0 hc
            simp [hk, hc, hd, q3, q4, n1, n2, n3, w0, w1, w2, w3, v0, v1, v2, v3, v4, v5, v6, v7, v8, v9, v10, v11, v12, v13]
            repeat' (first | exact v0 | exact v1 | exact v2 | exact v3 | exact v4 | exact v5 | exact v6 | exact v7 | exact v8 | exact v9 | exact v10 | exact v11 | exact v12 | exact v13 | refine And.intro ?_ ?_)
          | true =>
            cases hd : ℓ 14 with
            | false =>
              have hk := b1 hc hd
              simp [hk, hc, hd, q3, q4, n1, n2, n3, w0, w1, w2, w3, v0, v1, v2, v3, v4, v5, v6, v7, v8, v9, v10, v11, v12, v13]
              repeat' (first | exact v0 | exact v1 | exact v2 | exact v3 | exact v4 | exact v5 | exact v6 | exact v7 | exact v8 | exact v9 | exact v10 | exact v11 | exact v12 | exact v13 | refine And.intro ?_ ?_)
            | true =>
              have hk := (b2 hd).2
              simp [hk, hc, hd, q3, q4, n1, n2, n3, w0, w1, w2, w3, v0, v1, v2, v3, v4, v5, v6, v7, v8, v9, v10, v11, v12, v13]
              repeat' (first | exact v0 | exact v1 | exact v2 | exact v3 | exact v4 | exact v5 | exact v6 | exact v7 | exact v8 | exact v9 | exact v10 | exact v11 | exact v12 | exact v13 | refine And.intro ?_ ?_)
        · intro ℓ z hL he hI
          obtain ⟨n1, n2, n3, b0, b1, b2, w0, w1, w2, w3, v0, v1, v2, v3, v4, v5, v6, v7, v8, v9, v10, v11, v12, v13⟩ := hI
          try simp at hL
          cases hc : ℓ 12 with
          | false =>
            have hd : ℓ 14 = false := by cases hd : ℓ 14 with | false => rfl | true => (have := (b2 hd).1; rw [hc] at this; cases this)
            have hk := b0 hc
            simp [hk, hc, hd, q3, q4, n1, n2, n3, w0, w1, w2, w3, v0, v1, v2, v3, v4, v5, v6, v7, v8, v9, v10, v11, v12, v13]
            repeat' (first | exact v0 | exact v1 | exact v2 | exact v3 | exact v4 | exact v5 | exact v6 | exact v7 | exact v8 | exact v9 | exact v10 | exact v11 | exact v12 | exact v13 | refine And.intro ?_ ?_)
          | true =>
            cases hd : ℓ 14 with
            | false =>
              have hk := b1 hc hd
              simp [hk, hc, hd, q3, q4, n1, n2, n3, w0, w1, w2, w3, v0, v1, v2, v3, v4, v5, v6, v7, v8, v9, v10, v11, v12, v13]
              repeat' (first | exact v0 | exact v1 | exact v2 | exact v3 | exact v4 | exact v5 | exact v6 | exact v7 | exact v8 | exact v9 | exact v10 | exact v11 | exact v12 | exact v13 | refine And.intro ?_ ?_)
            | true =>
              have hk := (b2 hd).2
              simp [hk, hc, hd, q3, q4, n1, n2, n3, w0, w1, w2, w3, v0, v1, v2, v3, v4, v5, v6, v7, v8, v9, v10, v11, v12, v13]
              repeat' (first | exact v0 | exact v1 | exact v2 | exact v3 | exact v4 | exact v5 | exact v6 | exact v7 | exact v8 | exact v9 | exact v10 | exact v11 | exact v12 | exact v13 | refine And.intro ?_ ?_)
        · intro ℓ z hL he hI
          obtain ⟨n1, n2, n3, b0, b1, b2, w0, w1, w2, w3, v0, v1, v2, v3, v4, v5, v6, v7, v8, v9, v10, v11, v12, v13⟩ := hI
          try simp at hL
          cases hc : ℓ 12 with
          | false =>
            have hd : ℓ 14 = false := by cases hd : ℓ 14 with | false => rfl | true => (have := (b2 hd).1; rw [hc] at this; cases this)
            have hk := b0 hc
            simp [hk, hc, hd, q3, q4, n1, n2, n3, w0, w1, w2, w3, v0, v1, v2, v3, v4, v5, v6, v7, v8, v9, v10, v11, v12, v13]
            repeat' (first | exact v0 | exact v1 | exact v2 | exact v3 | exact v4 | exact v5 | exact v6 | exact v7 | exact v8 | exact v9 | exact v10 | exact v11 | exact v12 | exact v13 | refine And.intro ?_ ?_)
          | true =>
            cases hd : ℓ 14 with
            | false =>
              have hk := b1 hc hd
              simp [hk, hc, hd, q3, q4, n1, n2, n3, w0, w1, w2, w3, v0, v1, v2, v3, v4, v5, v6, v7, v8, v9, v10, v11, v12, v13]
              repeat' (first | exact v0 | exact v1 | exact v2 | exact v3 | exact v4 | exact v5 | exact v6 | exact v7 | exact v8 | exact v9 | exact v10 | exact v11 | exact v12 | exact v13 | refine And.intro ?_ ?_)
            | true =>
              have hk := (b2 hd).2
              simp [hk, hc, hd, q3, q4, n1, n2, n3, w0, w1, w2, w3, v0, v1, v2, v3, v4, v5, v6, v7, v8, v9, v10, v11, v12, v13]
              repeat' (first | exact v0 | exact v1 | exact v2 | exact v3 | exact v4 | exact v5 | exact v6 | exact v7 | exact v8 | exact v9 | exact v10 | exact v11 | exact v12 | exact v13 | refine And.intro ?_ ?_)
        · intro ℓ z hL he hI
          obtain ⟨n1, n2, n3, b0, b1, b2, w0, w1, w2, w3, v0, v1, v2, v3, v4, v5, v6, v7, v8, v9, v10, v11, v12, v13⟩ := hI
          replace v11 := v11 ((List.all_eq_true.1 he) 11 (by decide))
          try simp at hL
          replace b0 := b0 hL
          have h14 : ℓ 14 = false := by cases hc : ℓ 14 with | false => rfl | true => (rw [(b2 hc).1] at hL; cases hL)
          simp [n1, n2, n3, w0, w1, w2, w3, v0, v1, v2, v3, v4, v5, v6, v7, v8, v9, v10, v11, v12, v13]
          refine callRaw (clone_at s set l l1 L q8 q9 q10) b0 rfl ?_
          simp [h14, n1, n2, n3, w0, w1, w2, w3, v0, v1, v2, v3, v4, v5, v6, v7, v8, v9, v10, v11, v12, v13]
          repeat' (first | exact b0 | exact b1 | exact b2 | exact v0 | exact v1 | exact v2 | exact v3 | exact v4 | exact v5 | exact v6 | exact v7 | exact v8 | exact v9 | exact v10 | exact v11 | exact v12 | exact v13 | refine And.intro ?_ ?_ | (intro hh; simp_all; done))
        · intro ℓ z hL he hI
          obtain ⟨n1, n2, n3, b0, b1, b2, w0, w1, w2, w3, v0, v1, v2, v3, v4, v5, v6, v7, v8, v9, v10, v11, v12, v13⟩ := hI
          replace v3 := v3 ((List.all_eq_true.1 he) 3 (by decide))
          replace v4 := v4 ((List.all_eq_true.1 he) 4 (by decide))
          replace v8 := v8 ((List.all_eq_true.1 he) 8 (by decide))
          replace v10 := v10 ((List.all_eq_true.1 he) 10 (by decide))
          replace v12 := v12 ((List.all_eq_true.1 he) 12 (by decide))
          try simp at hL
          cases hc : ℓ 12 with
          | false =>
            have hd : ℓ 14 = false := by cases hd : ℓ 14 with | false => rfl | true => (have := (b2 hd).1; rw [hc] at this; cases this)
            have hk := b0 hc
            simp [hk, hc, hd, q3, q4, n1, n2, n3, w0, w1, w2, w3, v0, v1, v2, v3, v4, v5, v6, v7, v8, v9, v10, v11, v12, v13]
            repeat' (first | exact v0 | exact v1 | exact v2 | exact v3 | exact v4 | exact v5 | exact v6 | exact v7 | exact v8 | exact v9 | exact v10 | exact v11 | exact v12 | exact v13 | refine And.intro ?_ ?_)
          | true =>
            cases hd : ℓ 14 with
            | false =>
              have hk := b1 hc hd
              simp [hk, hc, hd, q3, q4, n1, n2, n3, w0, w1, w2, w3, v0, v1, v2, v3, v4, v5, v6, v7, v8, v9, v10, v11, v12, v13]
              repeat' (first | exact v0 | exact v1 | exact v2 | exact v3 | exact v4 | exact v5 | exact v6 | exact v7 | exact v8 | exact v9 | exact v10 | exact v11 | exact v12 | exact v13 | refine And.intro ?_ ?_)
            | true =>
              have hk := (b2 hd).2
              simp [hk, hc, hd, q3, q4, n1, n2, n3, w0, w1, w2, w3, v0, v1, v2, v3, v4, v5, v6, v7, v8, v9, v10, v11, v12, v13]
              repeat' (first | exact v0 | exact v1 | exact v2 | exact v3 | exact v4 | exact v5 | exact v6 | exact v7 | exact v8 | exact v9 | exact v10 | exact v11 | exact v12 | exact v13 | refine And.intro ?_ ?_)
        · intro ℓ z hL he hI
          obtain ⟨n1, n2, n3, b0, b1, b2, w0, w1, w2, w3, v0, v1, v2, v3, v4, v5, v6, v7, v8, v9, v10, v11, v12, v13⟩ := hI
          replace v13 := v13 ((List.all_eq_true.1 he) 13 (by decide))
          replace v10 := v10 ((List.all_eq_true.1 he) 10 (by decide))
          replace v12 := v12 ((List.all_eq_true.1 he) 12 (by decide))
          try simp at hL
          have h12 : ℓ 12 = true := (List.all_eq_true.1 he) 12 (by decide)
          replace b1 := b1 h12 hL
          simp [b1, h12, q3, q4, q17, M.VS.add, n1, n2, n3, w0, w1, w2, w3, v0, v1, v2, v3, v4, v5, v6, v7, v8, v9, v10, v11, v12, v13]
          repeat' (first | exact b0 | exact b1 | exact b2 | exact v0 | exact v1 | exact v2 | exact v3 | exact v4 | exact v5 | exact v6 | exact v7 | exact v8 | exact v9 | exact v10 | exact v11 | exact v12 | exact v13 | refine And.intro ?_ ?_ | (intro hh; simp_all; done))
      · rintro ℓ z hall ⟨n1, n2, n3, b0, b1, b2, w0, w1, w2, w3, v0, v1, v2, v3, v4, v5, v6, v7, v8, v9, v10, v11, v12, v13⟩
        replace v0 := v0 (hall 0 (by decide))
        replace v1 := v1 (hall 1 (by decide))
        replace v2 := v2 (hall 2 (by decide))
        replace v3 := v3 (hall 3 (by decide))
        replace v4 := v4 (hall 4 (by decide))
        replace v5 := v5 (hall 5 (by decide))
        replace v6 := v6 (hall 6 (by decide))
        replace v7 := v7 (hall 7 (by decide))
        replace v8 := v8 (hall 8 (by decide))
        replace v9 := v9 (hall 9 (by decide))
        replace v10 := v10 (hall 10 (by decide))
        replace v11 := v11 (hall 11 (by decide))
        replace v12 := v12 (hall 12 (by decide))
        replace v13 := v13 (hall 13 (by decide))
        replace b2 := (b2 (hall 14 (by decide))).2
        refine ⟨z, .refl z, ?_⟩
        simp [b2, q12, q13, q16, n1, n2, n3, w0, w1, w2, w3, v0, v1, v2, v3, v4, v5, v6, v7, v8, v9, v10, v11, v12, v13]
    refine cut 96 (s.R.length + 4) [] ((⟨s.f, s.D.set at1.toNat depth, s.S.set at1.toNat (some s.R.length), s.R ++ [.r l1], q⟩ : M.VS).blks L) ?_ ?_
    · refine st ?_
      simp [q14, q15]
    refine cut 96 (s.R.length + 4) [(8, .bool true)] ((⟨s.f, s.D.set at1.toNat depth, s.S.set at1.toNat (some s.R.length), s.R ++ [.r l1], q⟩ : M.VS).blks L) ?_ ?_
    · refine st ?_
      simp
    refine awp_ret ?_
    refine ret_seq ?_
    cases h
    simp
  refine awp_skip ?_
  refine seq_eq ?_
  refine awp_seq ?_
  refine cut 96 (s.R.length + 4) [(0, .mptr 3 0), (1, .int .i64 at1), (3, .msl (set + 4) 1 L), (53, .bool (!(eqI d depth)))] (s.blks L) ?_ ?_
  · refine st ?_
    simp [q3, q2, q4, q5]
  refine spc h rfl (fun g7 h => ?_) fun g7 h => ?_
  · refine cut 96 (s.R.length + 4) [(8, .bool false)] (s.blks L) ?_ ?_
    · refine st ?_
      simp
    refine awp_ret ?_
    refine ret_seq ?_
    cases h
    simp
  refine awp_skip ?_
  refine seq_eq ?_
  obtain ⟨u8, q8, h⟩ := bs h
  obtain ⟨o, q9, h⟩ := bs h
  replace h := bs h
  obtain ⟨k, rfl, h⟩ := h
  have q10 := ixC_ok q8
  have q11 := ixC_nat q8
  have q12 := rdS (L := L) q9
  refine cut 96 (s.R.length + 4) [(0, .mptr 3 0), (1, .int .i64 at1), (3, .msl (set + 4) 1 L), (9, .bool false)] (s.blks L) ?_ ?_
  · refine st ?_
    simp
  refine awp_seq ?_
  refine cut 96 (s.R.length + 4) [(0, .mptr 3 0), (1, .int .i64 at1), (3, .msl (set + 4) 1 L), (9, .bool false), (60, .msl (k + 4) 1 L), (61, .int .i64 L), (62, .int .i64 0)] (s.blks L) ?_ ?_
  · refine st ?_
    simp [q10, q11, q12]
  obtain ⟨p, l13, h⟩ := bs h
  refine awp_block ?_
  refine awp_inv (fun z : Nat × Nat × List M.Blk × Bool => mkS 96 (s.R.length + 4) [(0, .mptr 3 0), (1, .int .i64 at1), (3, .msl (set + 4) 1 L), (9, .bool z.2.2.2), (60, .msl (k + 4) 1 L), (61, .int .i64 L), (62, .int .i64 ((z.2.1 : Nat) : Int))] ((⟨s.f, s.D, s.S, z.2.2.1, s.Q⟩ : M.VS).blks L)) (fun z => M.verify_meet_l set k z.1 z.2.1 z.2.2.1 z.2.2.2 = some p ∧ z.1 + z.2.1 = L ∧ z.2.2.1.length = s.R.length) (fun z => z.1) (L, 0, s.R, false) ⟨l13, by simp, rfl⟩ (le_mkS (by simp)) ?_
  rintro ⟨n, i, R, ch⟩ ⟨l14, e15, e16⟩
  dsimp only at l14 e15 e16 ⊢
  refine cut 96 (s.R.length + 4) [(0, .mptr 3 0), (1, .int .i64 at1), (3, .msl (set + 4) 1 L), (9, .bool ch), (60, .msl (k + 4) 1 L), (61, .int .i64 L), (62, .int .i64 ((i : Nat) : Int)), (63, .bool (ltI ((i : Nat) : Int) L))] ((⟨s.f, s.D, s.S, R, s.Q⟩ : M.VS).blks L) ?_ ?_
  · refine st ?_
    simp [e16]
  refine awp_seq ?_
  cases n with
  | zero =>
    have g17 : ltI ((i : Nat) : Int) L = false := decide_eq_false (by omega)
    refine condF rfl g17 ?_
    refine awp_exit ?_
    refine exit_seq ?_
    refine exit_seq ?_
    refine exit_blk ?_
    rw [M.verify_meet_l] at l14
    obtain rfl := oi l14
    refine seq_le (t := mkS 96 (s.R.length + 4) [(0, .mptr 3 0), (1, .int .i64 at1), (9, .bool ch)] ((⟨s.f, s.D, s.S, R, s.Q⟩ : M.VS).blks L)) ?_ (le_mkS (by simp [e16]))
    dsimp only at h
    refine awp_seq ?_
    refine cut 96 (s.R.length + 4) [(0, .mptr 3 0), (1, .int .i64 at1), (85, .bool ch)] ((⟨s.f, s.D, s.S, R, s.Q⟩ : M.VS).blks L) ?_ ?_
    · refine st ?_
      simp [e16]
    refine spc h rfl (fun g7 h => ?_) fun g7 h => ?_
    · obtain ⟨q, q18, h⟩ := bs h
      obtain ⟨q14, q15⟩ := app_ok q18
      simp at q14
      refine last 96 (s.R.length + 4) [] ((⟨s.f, s.D, s.S, R, q⟩ : M.VS).blks L) ?_ fun zz hs => ?_
      · refine st ?_
        simp [q14, q15, e16]
      refine seq_le ?_ hs
      refine cut 96 (s.R.length + 4) [(8, .bool true)] ((⟨s.f, s.D, s.S, R, q⟩ : M.VS).blks L) ?_ ?_
      · refine st ?_
        simp [e16]
      refine awp_ret ?_
      cases h
      simp [e16]
    refine awp_skip ?_
    refine seq_le (t := mkS 96 (s.R.length + 4) [] ((⟨s.f, s.D, s.S, R, s.Q⟩ : M.VS).blks L)) ?_ (le_mkS (by simp [e16]))
    refine cut 96 (s.R.length + 4) [(8, .bool true)] ((⟨s.f, s.D, s.S, R, s.Q⟩ : M.VS).blks L) ?_ ?_
    · refine st ?_
      simp [e16]
    refine awp_ret ?_
    cases h
    simp [e16]
  | succ n =>
    have g17 : ltI ((i : Nat) : Int) L = true := decide_eq_true (by omega)
    have c17 := ltT g17
    refine condT rfl g17 ?_
    refine awp_skip ?_
    refine seq_eq ?_
    rw [M.verify_meet_l] at l14
    obtain ⟨r, q18, l14⟩ := bs l14
    obtain ⟨x, q19, l14⟩ := bs l14
    have q20 := rowOf_ok q18
    have q21 := rdB q19
    have q22 := blk_get q20
    have q23 := (List.getElem?_eq_some_iff.1 q20).1
    have q24 : k < s.R.length := by omega
    have q25 := getE q20
    have q26 : i + 1 ≤ r.length := (List.getElem?_eq_some_iff.1 q19).1
    refine awp_seq ?_
    refine awp_block ?_
    refine cut 96 (s.R.length + 4) [(0, .mptr 3 0), (1, .int .i64 at1), (3, .msl (set + 4) 1 L), (9, .bool ch), (10, .int .i64 ((i : Nat) : Int)), (11, .bool x), (60, .msl (k + 4) 1 L), (61, .int .i64 L), (62, .int .i64 ((i : Nat) : Int))] ((⟨s.f, s.D, s.S, R, s.Q⟩ : M.VS).blks L) ?_ ?_
    · refine st ?_
      simp [e16, q21, q25, q24, c17]
    cases x with
    | false =>
      rw [if_neg (by simp)] at l14
      refine cut 96 (s.R.length + 4) [(0, .mptr 3 0), (1, .int .i64 at1), (3, .msl (set + 4) 1 L), (9, .bool ch), (10, .int .i64 ((i : Nat) : Int)), (60, .msl (k + 4) 1 L), (61, .int .i64 L), (62, .int .i64 ((i : Nat) : Int)), (74, .bool false)] ((⟨s.f, s.D, s.S, R, s.Q⟩ : M.VS).blks L) ?_ ?_
      · refine st ?_
        simp [e16]
      refine condF rfl rfl ?_
      refine awp_skip ?_
      refine blk_n ?_
      refine seq_le (t := mkS 96 (s.R.length + 4) [(0, .mptr 3 0), (1, .int .i64 at1), (3, .msl (set + 4) 1 L), (9, .bool ch), (60, .msl (k + 4) 1 L), (61, .int .i64 L), (62, .int .i64 ((i : Nat) : Int))] ((⟨s.f, s.D, s.S, R, s.Q⟩ : M.VS).blks L)) ?_ (le_mkS (by simp [e16]))
      refine factI 61 rfl fun f61 => ?_
      have q16 : Rng .i64 (((i : Nat) : Int) + 1) := by simp at f61; simp only [Rng, inR]; omega
      try simp at q16
      refine last 96 (s.R.length + 4) [(0, .mptr 3 0), (1, .int .i64 at1), (3, .msl (set + 4) 1 L), (9, .bool ch), (60, .msl (k + 4) 1 L), (61, .int .i64 L), (62, .int .i64 ((i + 1 : Nat) : Int))] ((⟨s.f, s.D, s.S, R, s.Q⟩ : M.VS).blks L) ?_ fun zz hs => ?_
      · refine st ?_
        simp [q16, e16]
      exact ⟨(n, i + 1, R, ch), hs, ⟨l14, by show n + (i + 1) = L; omega, by simp [e16]⟩, by simp⟩
    | true =>
      rw [if_pos rfl] at l14
      obtain ⟨r2, q30, l14⟩ := bs l14
      obtain ⟨y, q31, l14⟩ := bs l14
      have q32 := rowOf_ok q30
      have q33 := rdB q31
      have q34 := blk_get q32
      have q35 := (List.getElem?_eq_some_iff.1 q32).1
      have q36 : set < s.R.length := by omega
      have q37 := getE q32
      refine cut 96 (s.R.length + 4) [(0, .mptr 3 0), (1, .int .i64 at1), (3, .msl (set + 4) 1 L), (9, .bool ch), (10, .int .i64 ((i : Nat) : Int)), (60, .msl (k + 4) 1 L), (61, .int .i64 L), (62, .int .i64 ((i : Nat) : Int)), (74, .bool (!y))] ((⟨s.f, s.D, s.S, R, s.Q⟩ : M.VS).blks L) ?_ ?_
      · refine st ?_
        simp [e16, q33, q37, q36, c17]
      refine spc l14 rfl (fun g40 l14 => ?_) fun g40 l14 => ?_
      · have q41 := row_set1 rc_B r i (x := false) (y := .bool false) rfl
        have q42 := blk_set R k (.r (r.set i false))
        refine cut 96 (s.R.length + 4) [(0, .mptr 3 0), (1, .int .i64 at1), (3, .msl (set + 4) 1 L), (9, .bool ch), (60, .msl (k + 4) 1 L), (61, .int .i64 L), (62, .int .i64 ((i : Nat) : Int))] ((⟨s.f, s.D, s.S, (R.set k (.r (r.set i false))), s.Q⟩ : M.VS).blks L) ?_ ?_
        · refine st ?_
          simp [e16, q10, q11, q12, c17, q25, q24, q41, q26]
        refine last 96 (s.R.length + 4) [(0, .mptr 3 0), (1, .int .i64 at1), (3, .msl (set + 4) 1 L), (9, .bool true), (60, .msl (k + 4) 1 L), (61, .int .i64 L), (62, .int .i64 ((i : Nat) : Int))] ((⟨s.f, s.D, s.S, (R.set k (.r (r.set i false))), s.Q⟩ : M.VS).blks L) ?_ fun zz hs => ?_
        · refine st ?_
          simp [e16]
        refine blk_n ?_
        refine seq_le ?_ hs
        refine factI 61 rfl fun f61 => ?_
        have q16 : Rng .i64 (((i : Nat) : Int) + 1) := by simp at f61; simp only [Rng, inR]; omega
        try simp at q16
        refine last 96 (s.R.length + 4) [(0, .mptr 3 0), (1, .int .i64 at1), (3, .msl (set + 4) 1 L), (9, .bool true), (60, .msl (k + 4) 1 L), (61, .int .i64 L), (62, .int .i64 ((i + 1 : Nat) : Int))] ((⟨s.f, s.D, s.S, (R.set k (.r (r.set i false))), s.Q⟩ : M.VS).blks L) ?_ fun zz hs => ?_
        · refine st ?_
          simp [q16, e16]
        exact ⟨(n, i + 1, (R.set k (.r (r.set i false))), true), hs, ⟨l14, by show n + (i + 1) = L; omega, by simp [e16]⟩, by simp⟩
      refine awp_skip ?_
      refine blk_n ?_
      refine seq_le (t := mkS 96 (s.R.length + 4) [(0, .mptr 3 0), (1, .int .i64 at1), (3, .msl (set + 4) 1 L), (9, .bool ch), (60, .msl (k + 4) 1 L), (61, .int .i64 L), (62, .int .i64 ((i : Nat) : Int))] ((⟨s.f, s.D, s.S, R, s.Q⟩ : M.VS).blks L)) ?_ (le_mkS (by simp [e16]))
      refine factI 61 rfl fun f61 => ?_
      have q16 : Rng .i64 (((i : Nat) : Int) + 1) := by simp at f61; simp only [Rng, inR]; omega
      try simp at q16
      refine last 96 (s.R.length + 4) [(0, .mptr 3 0), (1, .int .i64 at1), (3, .msl (set + 4) 1 L), (9, .bool ch), (60, .msl (k + 4) 1 L), (61, .int .i64 L), (62, .int .i64 ((i + 1 : Nat) : Int))] ((⟨s.f, s.D, s.S, R, s.Q⟩ : M.VS).blks L) ?_ fun zz hs => ?_
      · refine st ?_
        simp [q16, e16]
      exact ⟨(n, i + 1, R, ch), hs, ⟨l14, by show n + (i + 1) = L; omega, by simp [e16]⟩, by simp⟩
theorem visit_ok (fuel L : Nat) (s : M.VS) (at1 : Int) (b : Bool) (s' : M.VS) (h : M.verify_visit fuel L s at1 = some (b, s')) :
    Raw Try.prog 91 [.mptr 3 0, .int .i64 at1] (s.blks L) (.bool b) (s'.blks L) := by
  rw [M.verify_visit] at h
  refine raw_of_bodyB Try.func91 (by rfl) (by rfl) (by simp) (by simp) ?_
  rw [blks_len]
  refine cut 128 (s.R.length + 4) [(0, .mptr 3 0), (1, .int .i64 at1)] (s.blks L) ?_ ?_
  · refine st ?_
    simp
  obtain ⟨i, q1, h⟩ := bs h
  obtain ⟨u2, q2, h⟩ := bs h
  obtain ⟨d, q3, h⟩ := bs h
  obtain ⟨q4, q5⟩ := idx_ok q1
  have q6 := ixC_ok q2
  have q7 := ixC_nat q2
  have q8 := rdI (k := .i64) q3
  refine cut 128 (s.R.length + 4) [(0, .mptr 3 0), (1, .int .i64 at1), (5, .mptr (s.R.length + 4) 0), (6, .int .i64 d)] ((s.add (.i i)).blks L) ?_ ?_
  · refine awp_region_draw [s.R.length + 4] mixed (n := 128) rfl (by rfl) ?_
    simp [q4, q5, q6, q7, q8]
  obtain ⟨e, q9, h⟩ := bs h
  obtain ⟨pops, pushes, en⟩ := e
  have q10 : (s.blks L ++ [i.c]).length = s.R.length + 5 := by simp
  have w0 : (s.R.map M.Blk.c ++ [i.c])[s.R.length]? = some i.c := by rw [List.getElem?_append_right (by simp)]; simp
  refine cut 128 (s.R.length + 4) [(0, .mptr 3 0), (1, .int .i64 at1), (5, .mptr (s.R.length + 4) 0), (6, .int .i64 d), (7, .int .i64 pops), (8, .int .i64 pushes), (9, .int .i64 en)] ((s.add (.i i)).blks L) ?_ ?_
  · refine st ?_
    simp
    refine callPure (bytecode_Effect_ok i _ q9) (by simp) rfl ?_
    simp
  refine awp_seq ?_
  refine cut 128 (s.R.length + 4) [(0, .mptr 3 0), (1, .int .i64 at1), (5, .mptr (s.R.length + 4) 0), (6, .int .i64 d), (7, .int .i64 pops), (8, .int .i64 pushes), (51, .bool ((!(eqI en 0)) || ((ltI d pops) || ((eqI i.Op 9) && (!(eqI d 1))))))] ((s.add (.i i)).blks L) ?_ ?_
  · refine st ?_
    rcases tf (eqI en 0) with g1 | g1
    · rcases tf (ltI d pops) with g2 | g2
      · simp [g1, g2]
      rcases tf (eqI i.Op 9) with g3 | g3
      · simp [g1, g2, g3]
      simp [g1, g2, g3]
    simp [g1]
  refine spc h rfl (fun g11 h => ?_) fun g11 h => ?_
  · refine cut 128 (s.R.length + 4) [(4, .bool false)] ((s.add (.i i)).blks L) ?_ ?_
    · refine st ?_
      simp
    refine awp_ret ?_
    refine ret_seq ?_
    cases h
    simp
  refine awp_skip ?_
  refine seq_eq ?_
  obtain ⟨n1, q12, h⟩ := bs h
  obtain ⟨after, q13, h⟩ := bs h
  obtain ⟨q14, q15⟩ := chk_ok q12
  obtain ⟨q16, q17⟩ := chk_ok q13
  refine cut 128 (s.R.length + 4) [(0, .mptr 3 0), (1, .int .i64 at1), (5, .mptr (s.R.length + 4) 0), (10, .int .i64 after)] ((s.add (.i i)).blks L) ?_ ?_
  · refine st ?_
    simp [q14, q15, q16, q17]
  obtain ⟨c, q18, h⟩ := bs h
  refine awp_seq ?_
  refine cut 128 (s.R.length + 4) [(0, .mptr 3 0), (1, .int .i64 at1), (5, .mptr (s.R.length + 4) 0), (10, .int .i64 after), (82, .bool c)] ((s.add (.i i)).blks L) ?_ ?_
  · rcases sp q18 with ⟨g19, q18⟩ | ⟨g19, q18⟩
    · obtain rfl := oi q18
      refine awp_region_draw [] mixed (n := 128) rfl (by rfl) ?_
      simp [g19]
    rcases sp q18 with ⟨g20, q18⟩ | ⟨g20, q18⟩
    · obtain ⟨u21, q21, q18⟩ := bs q18
      obtain ⟨o, q22, q18⟩ := bs q18
      replace q18 := bs q18
      obtain ⟨k, rfl, q18⟩ := q18
      obtain ⟨u23, q23, q18⟩ := bs q18
      obtain ⟨r, q24, q18⟩ := bs q18
      obtain ⟨x, q25, q18⟩ := bs q18
      obtain rfl := oi q18
      have q26 := ixC_ok q21
      have q27 := ixC_nat q21
      have q28 := rdS (L := L) q22
      have q29 := ltC_ok q23
      have q30 := rowOf_ok q24
      have q31 := rdB q25
      have q32 := getE q30
      have q33 := (List.getElem?_eq_some_iff.1 q30).1
      refine awp_region_draw [] mixed (n := 128) rfl (by rfl) ?_
      have q34 : (s.R.map M.Blk.c ++ [i.c])[k]? = some (row cB r) := by rw [List.getElem?_append_left (by simpa using q33)]; exact blk_get q30
      have q35 := getE q34
      simp only [Api.Instr.c] at q34 q35
      have q36 : i.A.toNat + 1 ≤ L := by omega
      have q37 : k < s.R.length + 1 := by omega
      simp [g19, g20, q26, q27, q28, q29, q31, q32, q34, q35, q36, q37]
    obtain rfl := oi q18
    refine awp_region_draw [] mixed (n := 128) rfl (by rfl) ?_
    simp [g19, g20]
  refine spc h rfl (fun g38 h => ?_) fun g38 h => ?_
  · refine cut 128 (s.R.length + 4) [(4, .bool false)] ((s.add (.i i)).blks L) ?_ ?_
    · refine st ?_
      simp
    refine awp_ret ?_
    refine ret_seq ?_
    cases h
    simp
  refine awp_skip ?_
  refine seq_eq ?_
  obtain ⟨tg, q39, h⟩ := bs h
  refine cut 128 (s.R.length + 4) [(0, .mptr 3 0), (1, .int .i64 at1), (5, .mptr (s.R.length + 4) 0), (10, .int .i64 after), (11, .sl (tg.1.map (cI .i64))), (9, .int .i64 tg.2)] ((s.add (.i i)).blks L) ?_ ?_
  · refine st ?_
    simp
    refine callPure (bytecode_Targets_ok fuel s.f at1 tg q39) (by simp) rfl ?_
    simp
  refine awp_seq ?_
  refine cut 128 (s.R.length + 4) [(0, .mptr 3 0), (1, .int .i64 at1), (5, .mptr (s.R.length + 4) 0), (10, .int .i64 after), (11, .sl (tg.1.map (cI .i64))), (93, .bool (!(eqI tg.2 0)))] ((s.add (.i i)).blks L) ?_ ?_
  · refine st ?_
    simp
  refine spc h rfl (fun g40 h => ?_) fun g40 h => ?_
  · refine cut 128 (s.R.length + 4) [(4, .bool false)] ((s.add (.i i)).blks L) ?_ ?_
    · refine st ?_
      simp
    refine awp_ret ?_
    refine ret_seq ?_
    cases h
    simp
  refine awp_skip ?_
  refine seq_eq ?_
  obtain ⟨u41, q41, h⟩ := bs h
  obtain ⟨o, q42, h⟩ := bs h
  replace h := bs h
  obtain ⟨k, rfl, h⟩ := h
  have q43 := ixC_ok q41
  have q44 := ixC_nat q41
  have q45 := rdS (L := L) q42
  refine cut 128 (s.R.length + 4) [(0, .mptr 3 0), (5, .mptr (s.R.length + 4) 0), (10, .int .i64 after), (11, .sl (tg.1.map (cI .i64))), (12, .msl (k + 4) 1 L)] ((s.add (.i i)).blks L) ?_ ?_
  · refine st ?_
    simp [q43, q44, q45]
  refine cutE 128 (s.R.length + 4) (fun a : Nat × M.VS => [(0, .mptr 3 0), (10, .int .i64 after), (11, .sl (tg.1.map (cI .i64))), (12, .msl (a.1 + 4) 1 L)]) (fun a => a.2.blks L) (fun a => M.verify_visit_l L after a.1 tg.1 a.2 = some (b, s') ∧ s.R.length ≤ a.2.R.length) ?_ ?_
  · rintro ⟨set, s1⟩ ⟨l50, e51⟩
    dsimp only at l50 e51 ⊢
    refine awp_seq ?_
    refine cut 128 (s.R.length + 4) [(0, .mptr 3 0), (10, .int .i64 after), (12, .msl (set + 4) 1 L), (115, .sl (tg.1.map (cI .i64))), (116, .int .i64 (tg.1.length : Int)), (117, .int .i64 0)] (s1.blks L) ?_ ?_
    · refine st ?_
      simp [e51]
    refine awp_block ?_
    refine awp_inv (fun z : Nat × M.VS => mkS 128 (s.R.length + 4) [(0, .mptr 3 0), (10, .int .i64 after), (12, .msl (set + 4) 1 L), (115, .sl (tg.1.map (cI .i64))), (116, .int .i64 (tg.1.length : Int)), (117, .int .i64 ((z.1 : Nat) : Int))] (z.2.blks L)) (fun z => M.verify_visit_l L after set (tg.1.drop z.1) z.2 = some (b, s') ∧ s.R.length ≤ z.2.R.length) (fun z => tg.1.length - z.1) (0, s1) ⟨l50, e51⟩ (le_mkS (by simp [e51])) ?_
    rintro ⟨j, s2⟩ ⟨l52, e53⟩
    dsimp only at l52 e53 ⊢
    refine cut 128 (s.R.length + 4) [(0, .mptr 3 0), (10, .int .i64 after), (12, .msl (set + 4) 1 L), (115, .sl (tg.1.map (cI .i64))), (116, .int .i64 (tg.1.length : Int)), (117, .int .i64 ((j : Nat) : Int)), (118, .bool (ltI ((j : Nat) : Int) (tg.1.length : Int)))] (s2.blks L) ?_ ?_
    · refine st ?_
      simp [e53]
    refine awp_seq ?_
    cases hd : tg.1.drop j with
    | nil =>
      have g54 := drop_nil hd
      rw [hd, M.verify_visit_l] at l52
      refine condF rfl g54 ?_
      refine awp_exit ?_
      refine exit_seq ?_
      refine exit_seq ?_
      refine exit_blk ?_
      refine seq_le (t := mkS 128 (s.R.length + 4) [] (s2.blks L)) ?_ (le_mkS (by simp [e53]))
      refine cut 128 (s.R.length + 4) [(4, .bool true)] (s2.blks L) ?_ ?_
      · refine st ?_
        simp [e53]
      refine awp_ret ?_
      cases l52
      simp [e53]
    | cons t ts =>
      obtain ⟨g54, q55, q56, c57⟩ := drop_cons hd
      rw [hd, M.verify_visit_l] at l52
      refine condT rfl g54 ?_
      refine awp_skip ?_
      refine seq_eq ?_
      refine awp_seq ?_
      refine awp_block ?_
      refine cut 128 (s.R.length + 4) [(0, .mptr 3 0), (10, .int .i64 after), (12, .msl (set + 4) 1 L), (14, .int .i64 t), (115, .sl (tg.1.map (cI .i64))), (116, .int .i64 (tg.1.length : Int)), (117, .int .i64 ((j : Nat) : Int))] (s2.blks L) ?_ ?_
      · refine st ?_
        simp [e53, q55, c57]
      obtain ⟨⟨b2, s3⟩, q58, l52⟩ := bs l52
      have e59 := meet_len q58
      have e60 : s.R.length ≤ s3.R.length := Nat.le_trans e53 e59
      refine cut 128 (s.R.length + 4) [(0, .mptr 3 0), (10, .int .i64 after), (12, .msl (set + 4) 1 L), (115, .sl (tg.1.map (cI .i64))), (116, .int .i64 (tg.1.length : Int)), (117, .int .i64 ((j : Nat) : Int)), (126, .bool (!b2))] (s3.blks L) ?_ ?_
      · refine st ?_
        simp [e53]
        refine callRaw (meet_ok L s2 t after set b2 s3 q58) (by simp) rfl ?_
        simp [e60]
      refine spc l52 rfl (fun g61 l52 => ?_) fun g61 l52 => ?_
      · refine cut 128 (s.R.length + 4) [(4, .bool false)] (s3.blks L) ?_ ?_
        · refine st ?_
          simp [e60]
        refine awp_ret ?_
        refine ret_blk ?_
        refine ret_seq ?_
        refine ret_seq ?_
        refine ret_blk ?_
        refine ret_seq ?_
        cases l52
        simp [e60]
      refine awp_skip ?_
      refine blk_n ?_
      refine seq_eq ?_
      refine factI 116 rfl fun f61 => ?_
      have q16 : Rng .i64 (((j : Nat) : Int) + 1) := by simp at f61; simp only [Rng, inR]; omega
      try simp at q16
      refine last 128 (s.R.length + 4) [(0, .mptr 3 0), (10, .int .i64 after), (12, .msl (set + 4) 1 L), (115, .sl (tg.1.map (cI .i64))), (116, .int .i64 (tg.1.length : Int)), (117, .int .i64 ((j + 1 : Nat) : Int))] (s3.blks L) ?_ fun zz hs => ?_
      · refine st ?_
        simp [q16, e60]
      exact ⟨(j + 1, s3), hs, ⟨by rw [q56]; exact l52, e60⟩, by show tg.1.length - (j + 1) < tg.1.length - j; omega⟩
  rcases sp h with ⟨g70, h⟩ | ⟨g70, h⟩
  · obtain ⟨r, q71, h⟩ := bs h
    obtain ⟨r1, q72, h⟩ := bs h
    obtain ⟨u73, q73, h⟩ := bs h
    obtain ⟨u74, q74, h⟩ := bs h
    have q75 := ixC_ok q74
    have q76 := ixC_nat q74
    have q77 := lenN_ok q73
    refine ⟨(s.R.length + 1, (s.add (.i i)).add (.r (r1.set i.A.toNat true))), ⟨h, by simp⟩, ?_⟩
    refine cut 128 (s.R.length + 4) [(0, .mptr 3 0), (5, .mptr (s.R.length + 4) 0), (10, .int .i64 after), (11, .sl (tg.1.map (cI .i64))), (12, .msl (k + 4) 1 L), (108, .bool ((eqI i.Op 4) || (eqI i.Op 13)))] ((s.add (.i i)).blks L) ?_ ?_
    · rcases tf (eqI i.Op 4) with g1 | g1
      · refine st ?_
        simp [g1]
      refine st ?_
      simp [g1]
    refine condT rfl g70 ?_
    have q78 : M.rowOf (s.add (.i i)).R k = some r := by
      have := rowOf_ok q71
      unfold M.rowOf
      simp only [M.VS.add]
      rw [List.getElem?_append_left (List.getElem?_eq_some_iff.1 this).1, this]
    have q79 := row_set1 rc_B r1 i.A.toNat (x := true) (y := .bool true) rfl
    refine cut 128 (s.R.length + 4) [(0, .mptr 3 0), (5, .mptr (s.R.length + 4) 0), (10, .int .i64 after), (11, .sl (tg.1.map (cI .i64))), (12, .msl (s.R.length + 1 + 4) 1 L)] (((s.add (.i i)).add (.r r1)).blks L) ?_ ?_
    · refine st ?_
      simp
      refine callRaw (clone_at (s.add (.i i)) k r r1 L q78 q72 q73) (by simp) rfl ?_
      simp
    have q80 : i.A < (L : Int) ∧ i.A.toNat + 1 ≤ L := by omega
    refine st ?_
    simp [q75, q76, q77, q79, q80]
  refine ⟨(k, s.add (.i i)), ⟨h, by simp⟩, ?_⟩
  refine cut 128 (s.R.length + 4) [(0, .mptr 3 0), (5, .mptr (s.R.length + 4) 0), (10, .int .i64 after), (11, .sl (tg.1.map (cI .i64))), (12, .msl (k + 4) 1 L), (108, .bool ((eqI i.Op 4) || (eqI i.Op 13)))] ((s.add (.i i)).blks L) ?_ ?_
  · rcases tf (eqI i.Op 4) with g1 | g1
    · refine st ?_
      simp [g1]
    refine st ?_
    simp [g1]
  refine condF rfl g70 ?_
  refine awp_skip ?_
  simp
end Go.Proofs.Ythbjlmoaceaeeaa
set_option linter.unusedVariables false
set_option linter.unusedSimpArgs false
set_option maxRecDepth 100000
set_option maxHeartbeats 1000000
namespace Go.Proofs.Ythbjlmoaceaeeaa
open Go Go.Abs
theorem zero_row (m : Nat) : leCells (List.replicate m (.int .i64 0)) (row (cI .i64) (List.replicate m 0)) := by
  unfold row
  rw [List.map_replicate]
  induction m with
  | zero => trivial
  | succ m ih => exact ⟨rfl, .inl rfl, ih⟩
theorem nsl_row (L : Nat) : ∀ m : Nat, leCells (List.replicate m .nsl) (List.replicate m (sc L none))
  | 0 => trivial
  | m + 1 => ⟨rfl, .inl rfl, nsl_row L m⟩
theorem analyze_ok (fuel : Nat) (f : Api.Fun) (b : Bool) (s' : M.VS) (h : M.verify_analyze fuel f = some (b, s')) :
    Raw Try.prog 51 [.agg f.c] [] (if b then .tup [.mptr 3 0, .bool true] else .tup [.nilp, .bool false]) (s'.blks f.Locals.toNat) := by
  rw [M.verify_analyze] at h
  refine raw_of_bodyB Try.func51 (by rfl) (by rfl) (by simp) (by simp) ?_
  refine cut 68 0 [(1, .mptr 0 0)] [f.c] ?_ ?_
  · refine st ?_
    simp
  obtain ⟨d0, q1, h⟩ := bs h
  obtain ⟨q2, q3⟩ := mkL_ok q1
  obtain ⟨s0, q4, h⟩ := bs h
  obtain ⟨q5, q6⟩ := mkL_ok q4
  have q7 : 8 * (f.Code.length : Int) ≤ 281474976710656 := q2.2.2.1
  have q8 : 24 * (f.Code.length : Int) ≤ 281474976710656 := q5.2.2.1
  have q9 := zero_row f.Code.length
  have q10 := nsl_row f.Locals.toNat f.Code.length
  have q11 : (f.Code.length : Int) ≤ 9223372036854775807 := q5.2.2.2
  refine cut 68 0 [(1, .mptr 0 0), (4, .mptr 3 0)] [f.c, row (cI .i64) d0, s0.map (sc f.Locals.toNat), [.int .i64 f.Captures, .int .i64 f.Locals, .int .i64 f.Depth, .sl (f.Code.map Api.Instr.c), .msl 1 1 f.Code.length, .msl 2 1 f.Code.length, .osq ⟨1, 3⟩ []]] ?_ ?_
  · refine awp_region_free mixed 9 (fun L s => ∃ (pos : Nat → Nat) (bl : List (List AV)), NPos [(4, (List.replicate (Int.toNat (f.Code.length : Int)) [.int .i64 0]).flatten), (8, (List.replicate (Int.toNat (f.Code.length : Int)) [.nsl]).flatten)] L pos bl ∧ s.n = 68 ∧ s.base = 0 ∧ (∀ t, s.loans t = none) ∧ s.blocks = [[.int .i64 f.Captures, .int .i64 f.Locals, .int .i64 f.Depth, .sl (f.Code.map Api.Instr.c)]] ++ bl ∧ s.get 1 = .mptr 0 0 ∧ (L 0 = true → s.get 8 = .agg [.int .i64 f.Captures, .int .i64 f.Locals, .int .i64 f.Depth, .sl (f.Code.map Api.Instr.c)]) ∧ (L 1 = true → s.get 9 = .mptr 0 3) ∧ (L 2 = true → s.get 10 = .sl (f.Code.map Api.Instr.c)) ∧ (L 3 = true → s.get 11 = .int .i64 (f.Code.length : Int)) ∧ (L 4 = true → s.get 12 = .msl (pos 4 + 1) 1 (Int.toNat (f.Code.length : Int))) ∧ (L 5 = true → s.get 13 = .mptr 0 3) ∧ (L 6 = true → s.get 14 = .sl (f.Code.map Api.Instr.c)) ∧ (L 7 = true → s.get 15 = .int .i64 (f.Code.length : Int)) ∧ (L 8 = true → s.get 16 = .msl (pos 8 + 1) 1 (Int.toNat (f.Code.length : Int)))) (by decide) ⟨fun _ => 0, [], NPos.start _ _, by simp⟩ ?_ ?_
    · refine ⟨?_, ?_, ?_, ?_, ?_, ?_, ?_, ?_, ?_, trivial⟩
      · intro L s hL he hI
        obtain ⟨pos, bl, hN, n1, n2, n3, n4, w1, v0, v1, v2, v3, v4, v5, v6, v7, v8⟩ := hI
        try simp [q7, q8, q9, q10, q11, q3, q6] at v0 v1 v2 v3 v4 v5 v6 v7 v8
        refine AStep.mono ?_ fun s' h => ⟨_, _, hN.skip (by simp), h⟩
        simp [n1, n2, n3, n4, w1, v0, v1, v2, v3, v4, v5, v6, v7, v8, q7, q8, q9, q10, q11, q3, q6]
        repeat' (first | exact v0 | exact v1 | exact v2 | exact v3 | exact v4 | exact v5 | exact v6 | exact v7 | exact v8 | refine ⟨?_, ?_⟩)
      · intro L s hL he hI
        obtain ⟨pos, bl, hN, n1, n2, n3, n4, w1, v0, v1, v2, v3, v4, v5, v6, v7, v8⟩ := hI
        try simp [q7, q8, q9, q10, q11, q3, q6] at v0 v1 v2 v3 v4 v5 v6 v7 v8
        refine AStep.mono ?_ fun s' h => ⟨_, _, hN.skip (by simp), h⟩
        simp [n1, n2, n3, n4, w1, v0, v1, v2, v3, v4, v5, v6, v7, v8, q7, q8, q9, q10, q11, q3, q6]
        repeat' (first | exact v0 | exact v1 | exact v2 | exact v3 | exact v4 | exact v5 | exact v6 | exact v7 | exact v8 | refine ⟨?_, ?_⟩)
      · intro L s hL he hI
        obtain ⟨pos, bl, hN, n1, n2, n3, n4, w1, v0, v1, v2, v3, v4, v5, v6, v7, v8⟩ := hI
        try simp [q7, q8, q9, q10, q11, q3, q6] at v0 v1 v2 v3 v4 v5 v6 v7 v8
        replace v1 := v1 ((List.all_eq_true.1 he) 1 (by decide))
        refine AStep.mono ?_ fun s' h => ⟨_, _, hN.skip (by simp), h⟩
        simp [n1, n2, n3, n4, w1, v0, v1, v2, v3, v4, v5, v6, v7, v8, q7, q8, q9, q10, q11, q3, q6]
        repeat' (first | exact v0 | exact v1 | exact v2 | exact v3 | exact v4 | exact v5 | exact v6 | exact v7 | exact v8 | refine ⟨?_, ?_⟩)
      · intro L s hL he hI
        obtain ⟨pos, bl, hN, n1, n2, n3, n4, w1, v0, v1, v2, v3, v4, v5, v6, v7, v8⟩ := hI
        try simp [q7, q8, q9, q10, q11, q3, q6] at v0 v1 v2 v3 v4 v5 v6 v7 v8
        replace v2 := v2 ((List.all_eq_true.1 he) 2 (by decide))
        refine AStep.mono ?_ fun s' h => ⟨_, _, hN.skip (by simp), h⟩
        simp [n1, n2, n3, n4, w1, v0, v1, v2, v3, v4, v5, v6, v7, v8, q7, q8, q9, q10, q11, q3, q6]
        repeat' (first | exact v0 | exact v1 | exact v2 | exact v3 | exact v4 | exact v5 | exact v6 | exact v7 | exact v8 | refine ⟨?_, ?_⟩)
      · intro L s hL he hI
        obtain ⟨pos, bl, hN, n1, n2, n3, n4, w1, v0, v1, v2, v3, v4, v5, v6, v7, v8⟩ := hI
        try simp [q7, q8, q9, q10, q11, q3, q6] at v0 v1 v2 v3 v4 v5 v6 v7 v8
        replace v3 := v3 ((List.all_eq_true.1 he) 3 (by decide))
        refine AStep.mono ?_ fun s' h => ⟨_, _, hN.push (i := 4) (blk := (List.replicate (Int.toNat (f.Code.length : Int)) [.int .i64 0]).flatten) (by simp) (by simp) hL, h⟩
        simp [n1, n2, n3, n4, w1, v0, v1, v2, v3, v4, v5, v6, v7, v8, q7, q8, q9, q10, q11, q3, q6]
        repeat' (first | exact v0 | exact v1 | exact v2 | exact v3 | exact v4 | exact v5 | exact v6 | exact v7 | exact v8 | refine ⟨?_, ?_⟩)
      · intro L s hL he hI
        obtain ⟨pos, bl, hN, n1, n2, n3, n4, w1, v0, v1, v2, v3, v4, v5, v6, v7, v8⟩ := hI
        try simp [q7, q8, q9, q10, q11, q3, q6] at v0 v1 v2 v3 v4 v5 v6 v7 v8
        refine AStep.mono ?_ fun s' h => ⟨_, _, hN.skip (by simp), h⟩
        simp [n1, n2, n3, n4, w1, v0, v1, v2, v3, v4, v5, v6, v7, v8, q7, q8, q9, q10, q11, q3, q6]
        repeat' (first | exact v0 | exact v1 | exact v2 | exact v3 | exact v4 | exact v5 | exact v6 | exact v7 | exact v8 | refine ⟨?_, ?_⟩)
      · intro L s hL he hI
        obtain ⟨pos, bl, hN, n1, n2, n3, n4, w1, v0, v1, v2, v3, v4, v5, v6, v7, v8⟩ := hI
        try simp [q7, q8, q9, q10, q11, q3, q6] at v0 v1 v2 v3 v4 v5 v6 v7 v8
        replace v5 := v5 ((List.all_eq_true.1 he) 5 (by decide))
        refine AStep.mono ?_ fun s' h => ⟨_, _, hN.skip (by simp), h⟩
        simp [n1, n2, n3, n4, w1, v0, v1, v2, v3, v4, v5, v6, v7, v8, q7, q8, q9, q10, q11, q3, q6]
        repeat' (first | exact v0 | exact v1 | exact v2 | exact v3 | exact v4 | exact v5 | exact v6 | exact v7 | exact v8 | refine ⟨?_, ?_⟩)
      · intro L s hL he hI
        obtain ⟨pos, bl, hN, n1, n2, n3, n4, w1, v0, v1, v2, v3, v4, v5, v6, v7, v8⟩ := hI
        try simp [q7, q8, q9, q10, q11, q3, q6] at v0 v1 v2 v3 v4 v5 v6 v7 v8
        replace v6 := v6 ((List.all_eq_true.1 he) 6 (by decide))
        refine AStep.mono ?_ fun s' h => ⟨_, _, hN.skip (by simp), h⟩
        simp [n1, n2, n3, n4, w1, v0, v1, v2, v3, v4, v5, v6, v7, v8, q7, q8, q9, q10, q11, q3, q6]
        repeat' (first | exact v0 | exact v1 | exact v2 | exact v3 | exact v4 | exact v5 | exact v6 | exact v7 | exact v8 | refine ⟨?_, ?_⟩)
      · intro L s hL he hI
        obtain ⟨pos, bl, hN, n1, n2, n3, n4, w1, v0, v1, v2, v3, v4, v5, v6, v7, v8⟩ := hI
        try simp [q7, q8, q9, q10, q11, q3, q6] at v0 v1 v2 v3 v4 v5 v6 v7 v8
        replace v7 := v7 ((List.all_eq_true.1 he) 7 (by decide))
        refine AStep.mono ?_ fun s' h => ⟨_, _, hN.push (i := 8) (blk := (List.replicate (Int.toNat (f.Code.length : Int)) [.nsl]).flatten) (by simp) (by simp) hL, h⟩
        simp [n1, n2, n3, n4, w1, v0, v1, v2, v3, v4, v5, v6, v7, v8, q7, q8, q9, q10, q11, q3, q6]
        repeat' (first | exact v0 | exact v1 | exact v2 | exact v3 | exact v4 | exact v5 | exact v6 | exact v7 | exact v8 | refine ⟨?_, ?_⟩)
    · rintro L s hall ⟨pos, bl, hN, n1, n2, n3, n4, w1, v0, v1, v2, v3, v4, v5, v6, v7, v8⟩
      try simp [q7, q8, q9, q10, q11, q3, q6] at v0 v1 v2 v3 v4 v5 v6 v7 v8
      replace v0 := v0 (hall 0 (by decide))
      replace v1 := v1 (hall 1 (by decide))
      replace v2 := v2 (hall 2 (by decide))
      replace v3 := v3 (hall 3 (by decide))
      replace v4 := v4 (hall 4 (by decide))
      replace v5 := v5 (hall 5 (by decide))
      replace v6 := v6 (hall 6 (by decide))
      replace v7 := v7 (hall 7 (by decide))
      replace v8 := v8 (hall 8 (by decide))
      obtain ⟨f1, hf, hk, hg⟩ := hN.ghost (by simp) (by simp [hall 4 (by decide), hall 8 (by decide)]) n4 (by simp [n2])
      have k0 : f1 (pos 4 + 1) = 1 := by have := hk 0 _ rfl; simpa [Nat.add_comm] using this
      have k1 : f1 (pos 8 + 1) = 2 := by have := hk 1 _ rfl; simpa [Nat.add_comm] using this
      simp at hf
      refine ⟨_, hg, ?_⟩
      simp [AV.ren, AV.renL, hf, k0, k1, n1, n2, n3, n4, w1, v0, v1, v2, v3, v4, v5, v6, v7, v8, q7, q8, q9, q10, q11, q3, q6]
  refine awp_seq ?_
  refine cut 68 0 [(1, .mptr 0 0), (4, .mptr 3 0), (23, .int .i64 (f.Code.length : Int)), (24, .int .i64 0)] [f.c, row (cI .i64) d0, s0.map (sc f.Locals.toNat), [.int .i64 f.Captures, .int .i64 f.Locals, .int .i64 f.Depth, .sl (f.Code.map Api.Instr.c), .msl 1 1 f.Code.length, .msl 2 1 f.Code.length, .osq ⟨1, 3⟩ []]] ?_ ?_
  · refine st ?_
    simp [q3]
  refine awp_block ?_
  refine awp_inv (fun i : Nat => mkS 68 0 [(1, .mptr 0 0), (4, .mptr 3 0), (23, .int .i64 (f.Code.length : Int)), (24, .int .i64 ((i : Nat) : Int))] [f.c, row (cI .i64) (List.replicate i (-1) ++ List.replicate (f.Code.length - i) 0), s0.map (sc f.Locals.toNat), [.int .i64 f.Captures, .int .i64 f.Locals, .int .i64 f.Depth, .sl (f.Code.map Api.Instr.c), .msl 1 1 f.Code.length, .msl 2 1 f.Code.length, .osq ⟨1, 3⟩ []]]) (fun i => i ≤ f.Code.length) (fun i => f.Code.length - i) 0 (Nat.zero_le _) (le_mkS (by simp [q3])) ?_
  intro i hi
  refine cut 68 0 [(1, .mptr 0 0), (4, .mptr 3 0), (23, .int .i64 (f.Code.length : Int)), (24, .int .i64 ((i : Nat) : Int)), (25, .bool (ltI ((i : Nat) : Int) (f.Code.length : Int)))] [f.c, row (cI .i64) (List.replicate i (-1) ++ List.replicate (f.Code.length - i) 0), s0.map (sc f.Locals.toNat), [.int .i64 f.Captures, .int .i64 f.Locals, .int .i64 f.Depth, .sl (f.Code.map Api.Instr.c), .msl 1 1 f.Code.length, .msl 2 1 f.Code.length, .osq ⟨1, 3⟩ []]] ?_ ?_
  · refine st ?_
    simp
  refine awp_seq ?_
  rcases Nat.lt_or_ge i f.Code.length with h12 | h12
  · have g12 : ltI ((i : Nat) : Int) (f.Code.length : Int) = true := decide_eq_true (by omega)
    refine condT rfl g12 ?_
    refine awp_skip ?_
    refine seq_eq ?_
    refine awp_seq ?_
    refine awp_block ?_
    refine cut 68 0 [(1, .mptr 0 0), (4, .mptr 3 0), (5, .int .i64 ((i : Nat) : Int)), (23, .int .i64 (f.Code.length : Int)), (24, .int .i64 ((i : Nat) : Int))] [f.c, row (cI .i64) (List.replicate i (-1) ++ List.replicate (f.Code.length - i) 0), s0.map (sc f.Locals.toNat), [.int .i64 f.Captures, .int .i64 f.Locals, .int .i64 f.Depth, .sl (f.Code.map Api.Instr.c), .msl 1 1 f.Code.length, .msl 2 1 f.Code.length, .osq ⟨1, 3⟩ []]] ?_ ?_
    · refine st ?_
      simp
    have q13 := row_set1 (rc_I .i64) (List.replicate i (-1) ++ List.replicate (f.Code.length - i) 0) i (x := -1) (y := .int .i64 (-1)) rfl
    have q14 : (List.replicate i (-1) ++ List.replicate (f.Code.length - i) 0).set i (-1) = (List.replicate (i + 1) (-1) ++ List.replicate (f.Code.length - (i + 1)) 0) := by
      rw [List.set_append_right _ _ (by simp), List.length_replicate, Nat.sub_self, show f.Code.length - i = (f.Code.length - (i + 1)) + 1 by omega, List.replicate_succ, List.set_cons_zero, List.replicate_succ', List.append_assoc]; rfl
    have q15 : i + (f.Code.length - i) = f.Code.length := by omega
    have q16 : Rng .i64 (((i : Nat) : Int) + 1) := by simp only [Rng, inR]; omega
    try simp at q16
    refine last 68 0 [(1, .mptr 0 0), (4, .mptr 3 0), (23, .int .i64 (f.Code.length : Int)), (24, .int .i64 ((i : Nat) : Int))] [f.c, row (cI .i64) (List.replicate (i + 1) (-1) ++ List.replicate (f.Code.length - (i + 1)) 0), s0.map (sc f.Locals.toNat), [.int .i64 f.Captures, .int .i64 f.Locals, .int .i64 f.Depth, .sl (f.Code.map Api.Instr.c), .msl 1 1 f.Code.length, .msl 2 1 f.Code.length, .osq ⟨1, 3⟩ []]] ?_ fun zz hs => ?_
    · refine st ?_
      simp [show i + 1 ≤ f.Code.length from h12, h12, q13, q14, q15]
    refine blk_n ?_
    refine seq_le ?_ hs
    refine last 68 0 [(1, .mptr 0 0), (4, .mptr 3 0), (23, .int .i64 (f.Code.length : Int)), (24, .int .i64 ((i + 1 : Nat) : Int))] [f.c, row (cI .i64) (List.replicate (i + 1) (-1) ++ List.replicate (f.Code.length - (i + 1)) 0), s0.map (sc f.Locals.toNat), [.int .i64 f.Captures, .int .i64 f.Locals, .int .i64 f.Depth, .sl (f.Code.map Api.Instr.c), .msl 1 1 f.Code.length, .msl 2 1 f.Code.length, .osq ⟨1, 3⟩ []]] ?_ fun zz hs => ?_
    · refine st ?_
      simp [q16]
    exact ⟨i + 1, hs, h12, by show f.Code.length - (i + 1) < f.Code.length - i; omega⟩
  have g12 : ltI ((i : Nat) : Int) (f.Code.length : Int) = false := decide_eq_false (by omega)
  have e12 : i = f.Code.length := by omega
  refine condF rfl g12 ?_
  refine awp_exit ?_
  refine exit_seq ?_
  refine exit_seq ?_
  refine exit_blk ?_
  have q13 : (List.replicate i (-1) ++ List.replicate (f.Code.length - i) 0) = List.replicate f.Code.length (-1) := by rw [e12, Nat.sub_self]; simp
  rw [q13]
  refine seq_le (t := mkS 68 0 [(1, .mptr 0 0), (4, .mptr 3 0)] [f.c, row (cI .i64) (List.replicate f.Code.length (-1)), s0.map (sc f.Locals.toNat), [.int .i64 f.Captures, .int .i64 f.Locals, .int .i64 f.Depth, .sl (f.Code.map Api.Instr.c), .msl 1 1 f.Code.length, .msl 2 1 f.Code.length, .osq ⟨1, 3⟩ []]]) ?_ (le_mkS (by simp))
  obtain ⟨first, q20, h⟩ := bs h
  obtain ⟨q21, q22⟩ := mkL_ok q20
  have q23 := mkL_row (c := cB) q22
  have q24 := mkL_len q22
  try simp at q21
  try simp at q23
  refine cut 68 0 [(4, .mptr 3 0), (6, .msl 4 1 f.Locals.toNat)] ((⟨f, List.replicate f.Code.length (-1), s0, [.r first], []⟩ : M.VS).blks f.Locals.toNat) ?_ ?_
  · refine st ?_
    simp [q21, q23, q6]
  obtain ⟨u25, q25, h⟩ := bs h
  have q26 := ixC_ok q25
  have q27 := row_set1 rc_B first 0 (x := true) (y := .bool true) rfl
  have q28 : (0 : Int) < max f.Locals 0 ∧ 1 ≤ f.Locals.toNat ∧ (0 : Int) < f.Locals := by omega
  refine cut 68 0 [(4, .mptr 3 0), (6, .msl 4 1 f.Locals.toNat)] ((⟨f, List.replicate f.Code.length (-1), s0, [.r (first.set 0 true)], []⟩ : M.VS).blks f.Locals.toNat) ?_ ?_
  · refine st ?_
    simp [q26, q27, q24, q28]
  obtain ⟨p, q29, h⟩ := bs h
  obtain ⟨b1, s1⟩ := p
  dsimp only at h
  refine awp_seq ?_
  refine cut 68 0 [(4, .mptr 3 0), (42, .bool (!b1))] (s1.blks f.Locals.toNat) ?_ ?_
  · refine st ?_
    simp
    refine callRaw (meet_ok f.Locals.toNat (⟨f, List.replicate f.Code.length (-1), s0, [.r (first.set 0 true)], []⟩ : M.VS) 0 0 0 b1 s1 q29) (by simp) rfl ?_
    simp
  refine spc h rfl (fun g30 h => ?_) fun g30 h => ?_
  · cases h
    refine cut 68 0 [(2, .nilp), (3, .bool false)] (s'.blks f.Locals.toNat) ?_ ?_
    · refine st ?_
      simp
    refine awp_ret ?_
    refine ret_seq ?_
    simp
  refine awp_skip ?_
  refine seq_eq ?_
  refine awp_seq ?_
  refine awp_block ?_
  refine awp_inv (fun z : Nat × M.VS => mkS 68 0 [(4, .mptr 3 0)] (z.2.blks f.Locals.toNat)) (fun z => M.verify_analyze_l fuel f.Locals.toNat z.1 z.2 = some (b, s')) (fun z => z.1) (fuel, s1) h (le_mkS (by simp)) ?_
  rintro ⟨n, s2⟩ l31
  dsimp only at l31 ⊢
  cases n with
  | zero => rw [M.verify_analyze_l] at l31; cases l31
  | succ n =>
    refine awp_seq ?_
    refine cut 68 0 [(4, .mptr 3 0), (48, .bool (ltI 0 (s2.Q.length : Int)))] (s2.blks f.Locals.toNat) ?_ ?_
    · refine st ?_
      simp
    rw [M.verify_analyze_l] at l31
    obtain ⟨f2, D2, S2, R2, Q2⟩ := s2
    dsimp only at l31
    cases Q2 with
    | nil =>
      cases l31
      refine condF rfl (by rfl) ?_
      refine awp_exit ?_
      refine exit_seq ?_
      refine exit_seq ?_
      refine exit_blk ?_
      refine seq_eq ?_
      refine cut 68 0 [(2, .mptr 3 0), (3, .bool true)] ((⟨f2, D2, S2, R2, []⟩ : M.VS).blks f.Locals.toNat) ?_ ?_
      · refine st ?_
        simp
      refine awp_ret ?_
      simp
    | cons q qs =>
      dsimp only at l31
      refine condT rfl (decide_eq_true (by simp)) ?_
      refine awp_skip ?_
      refine seq_eq ?_
      refine awp_block ?_
      refine cut 68 0 [(4, .mptr 3 0), (7, .int .i64 q)] ((⟨f2, D2, S2, R2, q :: qs⟩ : M.VS).blks f.Locals.toNat) ?_ ?_
      · refine st ?_
        simp
      refine cut 68 0 [(4, .mptr 3 0), (7, .int .i64 q)] ((⟨f2, D2, S2, R2, qs⟩ : M.VS).blks f.Locals.toNat) ?_ ?_
      · refine st ?_
        simp
        omega
      obtain ⟨p, q32, l31⟩ := bs l31
      obtain ⟨b3, s3⟩ := p
      dsimp only at l31
      refine cut 68 0 [(4, .mptr 3 0), (66, .bool (!b3))] (s3.blks f.Locals.toNat) ?_ ?_
      · refine st ?_
        simp
        refine callRaw (visit_ok fuel f.Locals.toNat ⟨f2, D2, S2, R2, qs⟩ q b3 s3 q32) (by simp) rfl ?_
        simp
      refine spc l31 rfl (fun g33 l31 => ?_) fun g33 l31 => ?_
      · cases l31
        refine cut 68 0 [(2, .nilp), (3, .bool false)] (s'.blks f.Locals.toNat) ?_ ?_
        · refine st ?_
          simp
        refine awp_ret ?_
        refine ret_blk ?_
        refine ret_seq ?_
        refine ret_blk ?_
        refine ret_seq ?_
        simp
      refine awp_skip ?_
      refine blk_n ?_
      exact ⟨(n, s3), le_mkS (by simp), l31, by simp⟩
end Go.Proofs.Ythbjlmoaceaeeaa
set_option linter.unusedVariables false
set_option linter.unusedSimpArgs false
set_option maxRecDepth 100000
set_option maxHeartbeats 1000000
namespace Go.Proofs.Ythbjlmoaceaeeaa
open Go Go.Abs
theorem visit_l_f {L : Nat} {after : Int} {set : Nat} : ∀ {ts : List Int} {s : M.VS} {b : Bool} {s' : M.VS}, M.verify_visit_l L after set ts s = some (b, s') → s'.f = s.f
  | [], s, b, s', h => by rw [M.verify_visit_l] at h; cases h; rfl
  | t :: ts, s, b, s', h => by
    rw [M.verify_visit_l] at h
    obtain ⟨p, q, h⟩ := bs h
    obtain ⟨b1, s1⟩ := p
    have h1 := meet_f q
    rcases sp h with ⟨_, h⟩ | ⟨_, h⟩
    · cases h; exact h1
    · rw [visit_l_f h]; exact h1
theorem visit_f {fuel L : Nat} {s : M.VS} {at1 : Int} {b : Bool} {s' : M.VS} (h : M.verify_visit fuel L s at1 = some (b, s')) : s'.f = s.f := by
  rw [M.verify_visit] at h
  obtain ⟨i, q1, h⟩ := bs h
  obtain ⟨u2, q2, h⟩ := bs h
  obtain ⟨d, q3, h⟩ := bs h
  obtain ⟨e, q4, h⟩ := bs h
  rcases sp h with ⟨_, h⟩ | ⟨_, h⟩
  · cases h; rfl
  obtain ⟨n1, q5, h⟩ := bs h
  obtain ⟨n2, q6, h⟩ := bs h
  obtain ⟨c, q7, h⟩ := bs h
  rcases sp h with ⟨_, h⟩ | ⟨_, h⟩
  · cases h; rfl
  obtain ⟨t, q8, h⟩ := bs h
  rcases sp h with ⟨_, h⟩ | ⟨_, h⟩
  · cases h; rfl
  obtain ⟨u9, q9, h⟩ := bs h
  obtain ⟨o, q10, h⟩ := bs h
  obtain ⟨k, q11, h⟩ := bs h
  rcases sp h with ⟨_, h⟩ | ⟨_, h⟩
  · obtain ⟨r, _, h⟩ := bs h
    obtain ⟨r1, _, h⟩ := bs h
    obtain ⟨u1, _, h⟩ := bs h
    obtain ⟨u2, _, h⟩ := bs h
    rw [visit_l_f h]; rfl
  · rw [visit_l_f h]; rfl
theorem analyze_l_f {fuel L : Nat} : ∀ {n : Nat} {s : M.VS} {b : Bool} {s' : M.VS}, M.verify_analyze_l fuel L n s = some (b, s') → s'.f = s.f
  | 0, s, b, s', h => by rw [M.verify_analyze_l] at h; cases h
  | n + 1, s, b, s', h => by
    rw [M.verify_analyze_l] at h
    split at h
    · cases h; rfl
    · obtain ⟨p, q, h⟩ := bs h
      obtain ⟨b1, s1⟩ := p
      have h1 := visit_f q
      rcases sp h with ⟨_, h⟩ | ⟨_, h⟩
      · cases h; exact h1
      · rw [analyze_l_f h]; exact h1
theorem analyze_f {fuel : Nat} {f : Api.Fun} {b : Bool} {s' : M.VS} (h : M.verify_analyze fuel f = some (b, s')) : s'.f = f := by
  rw [M.verify_analyze] at h
  obtain ⟨d0, _, h⟩ := bs h
  obtain ⟨s0, _, h⟩ := bs h
  obtain ⟨fi, _, h⟩ := bs h
  obtain ⟨u, _, h⟩ := bs h
  obtain ⟨p, q, h⟩ := bs h
  obtain ⟨b1, s1⟩ := p
  have h1 := meet_f q
  rcases sp h with ⟨_, h⟩ | ⟨_, h⟩
  · cases h; exact h1
  · rw [analyze_l_f h]; exact h1
def scO (o L : Nat) : Option Nat → AV
  | none => .sl []
  | some k => .msl (k + 4 + o) 1 L
@[simp] def M.VS.stO (o : Nat) (s : M.VS) : List AV := [.int .i64 s.f.Captures, .int .i64 s.f.Locals, .int .i64 s.f.Depth, .sl (s.f.Code.map Api.Instr.c), .msl (1 + o) 1 s.D.length, .msl (2 + o) 1 s.S.length, .osq ⟨1, 3⟩ (s.Q.map (cI .i64))]
@[simp] def M.VS.blksO (o L : Nat) (s : M.VS) : List (List AV) := s.f.c :: row (cI .i64) s.D :: s.S.map (scO o L) :: s.stO o :: s.R.map M.Blk.c
theorem renL_sc (o o' L : Nat) : ∀ S : List (Option Nat), AV.renL (place [] o') (S.map (scO o L)) = S.map (scO (o' + o) L)
  | [] => rfl
  | none :: S => by simp only [List.map_cons, AV.renL, scO, AV.ren, renL_sc o o' L S]
  | some k :: S => by simp only [List.map_cons, AV.renL, scO, AV.ren, renL_sc o o' L S, place, List.getD_eq_getElem?_getD, List.length_nil]; simp; omega
theorem renL_blk (f : Nat → Nat) (b : M.Blk) : AV.renL f b.c = b.c := by cases b <;> simp [AV.renL, AV.ren]
theorem blksO_ren (o o' L : Nat) (s : M.VS) : (s.blksO o L).map (AV.renL (place [] o')) = s.blksO (o' + o) L := by
  have h1 : (s.R.map M.Blk.c).map (AV.renL (place [] o')) = s.R.map M.Blk.c := by
    rw [List.map_map]; exact List.map_congr_left fun b _ => renL_blk _ b
  simp only [M.VS.blksO, List.map_cons, h1, renL_sc, rren_I]
  simp [AV.renL, AV.ren, place]
  omega
theorem blks_O (L : Nat) (s : M.VS) : s.blks L = s.blksO 0 L := by
  have : s.S.map (sc L) = s.S.map (scO 0 L) := List.map_congr_left fun o _ => by cases o <;> rfl
  simp [this]
theorem analyze_at (bs : List (List AV)) (fuel : Nat) (f : Api.Fun) (b : Bool) (s' : M.VS) (h : M.verify_analyze fuel f = some (b, s')) :
    Raw Try.prog 51 [.agg f.c] bs (if b then .tup [.mptr (bs.length + 3) 0, .bool true] else .tup [.nilp, .bool false]) (bs ++ s'.blksO bs.length f.Locals.toNat) := by
  have h1 := (analyze_ok fuel f b s' h).frame [] bs ⟨rfl, by simp [AV.underL, AV.under], rfl, trivial⟩
  rw [blks_O] at h1
  simp only [lay, blksO_ren, Nat.add_zero] at h1
  cases b <;> simpa [AV.renL, AV.ren, place] using h1
theorem function_err (fuel : Nat) (p : Api.Program) (n : Int) (e : Int) (h : M.verify_function fuel p n = some (.inl e)) :
    Raw Try.prog 52 [.agg p.c, .int .i64 n] [] (.tup [.nilp, .int .i64 e]) [p.c] := by
  rw [M.verify_function] at h
  refine raw_of_bodyB Try.func52 (by rfl) (by rfl) (by simp) (by simp) ?_
  refine cut 34 0 [(1, .int .i64 n), (2, .mptr 0 0)] [p.c] ?_ ?_
  · refine st ?_
    simp
  obtain ⟨v, q1, h⟩ := bs h
  refine awp_seq ?_
  refine awp_block ?_
  refine cut 34 0 [(1, .int .i64 n), (2, .mptr 0 0), (8, .bool (!v))] [p.c] ?_ ?_
  · refine st ?_
    simp
    refine callPure (bytecode_Valid_ok fuel p v q1) (by simp) rfl ?_
    simp
  refine spc h rfl (fun g2 h => ?_) fun g2 h => ?_
  · cases h
    refine cut 34 0 [(4, .nilp), (5, .int .i64 1)] [p.c] ?_ ?_
    · refine st ?_
      simp
    refine awp_ret ?_
    refine ret_blk ?_
    refine ret_seq ?_
    simp
  refine cut 34 0 [(1, .int .i64 n), (2, .mptr 0 0), (12, .bool ((ltI n 0) || (leI (p.Funs.length : Int) n)))] [p.c] ?_ ?_
  · rcases tf (ltI n 0) with g3 | g3
    · refine st ?_
      simp [g3]
    refine st ?_
    simp [g3]
  refine spc h rfl (fun g4 h => ?_) fun g4 h => ?_
  · cases h
    refine cut 34 0 [(4, .nilp), (5, .int .i64 2)] [p.c] ?_ ?_
    · refine st ?_
      simp
    refine awp_ret ?_
    refine ret_blk ?_
    refine ret_seq ?_
    simp
  refine awp_skip ?_
  refine blk_n ?_
  refine seq_eq ?_
  obtain ⟨f, q5, h⟩ := bs h
  obtain ⟨o, q6, h⟩ := bs h
  obtain ⟨b, s'⟩ := o
  obtain ⟨q7, q8⟩ := idx_ok q5
  have q9 := idx_lt q8
  have q11 := getE q8
  have r12 := analyze_at [p.c] fuel
  dsimp only at h
  cases b with
  | true => cases h
  | false =>
    cases h
    refine cut 34 0 [(7, .bool false)] [p.c] ?_ ?_
    · refine st ?_
      simp [q7, q8, q9, q11]
      refine callRaw (r12 f false s' q6) (by simp) rfl ?_
      simp
    refine awp_seq ?_
    refine cut 34 0 [(32, .bool true)] [p.c] ?_ ?_
    · refine st ?_
      simp
    refine condT rfl rfl ?_
    refine cut 34 0 [(4, .nilp), (5, .int .i64 24)] [p.c] ?_ ?_
    · refine st ?_
      simp
    refine awp_ret ?_
    refine ret_seq ?_
    simp
theorem function_ok (fuel : Nat) (p : Api.Program) (n : Int) (s' : M.VS) (h : M.verify_function fuel p n = some (.inr s')) :
    Raw Try.prog 52 [.agg p.c, .int .i64 n] [] (.tup [.mptr 4 0, .int .i64 0]) (p.c :: s'.blksO 1 s'.f.Locals.toNat) := by
  rw [M.verify_function] at h
  refine raw_of_bodyB Try.func52 (by rfl) (by rfl) (by simp) (by simp) ?_
  refine cut 34 0 [(1, .int .i64 n), (2, .mptr 0 0)] [p.c] ?_ ?_
  · refine st ?_
    simp
  obtain ⟨v, q1, h⟩ := bs h
  refine awp_seq ?_
  refine awp_block ?_
  refine cut 34 0 [(1, .int .i64 n), (2, .mptr 0 0), (8, .bool (!v))] [p.c] ?_ ?_
  · refine st ?_
    simp
    refine callPure (bytecode_Valid_ok fuel p v q1) (by simp) rfl ?_
    simp
  refine spc h rfl (fun g2 h => ?_) fun g2 h => ?_
  · cases h
  refine cut 34 0 [(1, .int .i64 n), (2, .mptr 0 0), (12, .bool ((ltI n 0) || (leI (p.Funs.length : Int) n)))] [p.c] ?_ ?_
  · rcases tf (ltI n 0) with g3 | g3
    · refine st ?_
      simp [g3]
    refine st ?_
    simp [g3]
  refine spc h rfl (fun g4 h => ?_) fun g4 h => ?_
  · cases h
  refine awp_skip ?_
  refine blk_n ?_
  refine seq_eq ?_
  obtain ⟨f, q5, h⟩ := bs h
  obtain ⟨o, q6, h⟩ := bs h
  obtain ⟨b, s'⟩ := o
  obtain ⟨q7, q8⟩ := idx_ok q5
  have q9 := idx_lt q8
  have q11 := getE q8
  have r12 := analyze_at [p.c] fuel
  dsimp only at h
  cases b with
  | false => cases h
  | true =>
    cases h
    have q12 := analyze_f q6
    subst q12
    refine cut 34 0 [(6, .mptr 4 0), (7, .bool true)] (p.c :: s'.blksO 1 s'.f.Locals.toNat) ?_ ?_
    · refine st ?_
      simp [q7, q8, q9, q11]
      refine callRaw (r12 s'.f true s' q6) (by simp) rfl ?_
      simp
    refine awp_seq ?_
    refine cut 34 0 [(6, .mptr 4 0), (32, .bool false)] (p.c :: s'.blksO 1 s'.f.Locals.toNat) ?_ ?_
    · refine st ?_
      simp
    refine condF rfl rfl ?_
    refine awp_skip ?_
    refine seq_eq ?_
    refine cut 34 0 [(4, .mptr 4 0), (5, .int .i64 0)] (p.c :: s'.blksO 1 s'.f.Locals.toNat) ?_ ?_
    · refine st ?_
      simp
    refine awp_ret ?_
    simp
theorem inl_ne {fuel : Nat} {p : Api.Program} {n e : Int} (h : M.verify_function fuel p n = some (.inl e)) : eqI e 0 = false := by
  rw [M.verify_function] at h
  obtain ⟨v, q1, h⟩ := bs h
  rcases sp h with ⟨_, h⟩ | ⟨_, h⟩
  · cases h; rfl
  rcases sp h with ⟨_, h⟩ | ⟨_, h⟩
  · cases h; rfl
  obtain ⟨f, q5, h⟩ := bs h
  obtain ⟨o, q6, h⟩ := bs h
  rcases sp h with ⟨_, h⟩ | ⟨_, h⟩
  · cases h; rfl
  · cases h
theorem fn_err {fuel : Nat} {p : Api.Program} {n e : Int} (h : M.verify_function fuel p n = some (.inl e)) : Raw Try.prog 52 [.agg p.c, .int .i64 n] [p.c] (.tup [.nilp, .int .i64 e]) [p.c, p.c] := by
  have h1 := (function_err fuel p n e h).frame [] [p.c] ⟨rfl, by simp [AV.underL, AV.under], rfl, trivial⟩
  simpa [AV.renL, AV.ren, place, lay] using h1
theorem fn_ok {fuel : Nat} {p : Api.Program} {n : Int} {s : M.VS} (h : M.verify_function fuel p n = some (.inr s)) : Raw Try.prog 52 [.agg p.c, .int .i64 n] [p.c] (.tup [.mptr 5 0, .int .i64 0]) (p.c :: p.c :: s.blksO 2 s.f.Locals.toNat) := by
  have h1 := (function_ok fuel p n s h).frame [] [p.c] ⟨rfl, by simp [AV.underL, AV.under], rfl, trivial⟩
  simp only [lay, List.map_cons, blksO_ren] at h1
  simpa [AV.renL, AV.ren, place] using h1
theorem verify_Fun_ok (fuel : Nat) (p1 : Api.Program) (n2 : Int) (r : Int) (h : M.verify_Fun fuel p1 n2 = some r) : Pure Try.prog 18 [.agg [.sl (p1.Funs.map Api.Fun.c), .sl (p1.Texts.map cS), .int .i64 p1.Main], .int .i64 n2] (.int .i64 r) := by
  rw [M.verify_Fun] at h
  refine pure_of_body Try.func18 (by rfl) (by rfl) (by simp) (by simp) (by simp) ?_
  refine cut 14 0 [(1, .int .i64 n2), (2, .mptr 0 0)] [p1.c] ?_ ?_
  · refine st ?_
    simp
  obtain ⟨o, q1, h⟩ := bs h
  refine cut 14 0 [(6, .int .i64 r)] [] ?_ ?_
  · refine st ?_
    simp
    cases o with
    | inl e => cases h; refine callRaw (fn_err q1) (by simp) rfl ?_; simp
    | inr s => cases h; refine callRaw (fn_ok q1) (by simp) rfl ?_; simp
  refine cut 14 0 [(4, .int .i64 r)] [] ?_ ?_
  · refine st ?_
    simp
  refine awp_ret ?_
  simp
theorem verify_Depths_ok (fuel : Nat) (p1 : Api.Program) (n2 : Int) (r : List Int × Int) (h : M.verify_Depths fuel p1 n2 = some r) : Pure Try.prog 19 [.agg [.sl (p1.Funs.map Api.Fun.c), .sl (p1.Texts.map cS), .int .i64 p1.Main], .int .i64 n2] (.tup [.sl (r.1.map (cI .i64)), .int .i64 r.2]) := by
  rw [M.verify_Depths] at h
  obtain ⟨o, q1, h⟩ := bs h
  cases o with
  | inl e =>
    cases h
    have q2 := inl_ne q1
    refine pure_of_body Try.func19 (by rfl) (by rfl) (by simp) (by simp) (by simp) ?_
    refine cut 21 0 [(1, .int .i64 n2), (2, .mptr 0 0)] [p1.c] ?_ ?_
    · refine st ?_
      simp
    refine cut 21 0 [(7, .int .i64 e)] [] ?_ ?_
    · refine st ?_
      simp
      refine callRaw (fn_err q1) (by simp) rfl ?_; simp
    refine awp_seq ?_
    refine cut 21 0 [(7, .int .i64 e), (15, .bool true)] [] ?_ ?_
    · refine st ?_
      simp [q2]
    refine condT rfl rfl ?_
    refine cut 21 0 [(4, .sl []), (5, .int .i64 e)] [] ?_ ?_
    · refine st ?_
      simp
    refine awp_ret ?_
    refine ret_seq ?_
    simp
  | inr s =>
    cases h
    refine pure_of_bodyF [true] Try.func19 (by rfl) (by rfl) (by simp) (by simp) (by simp) ?_
    refine cut 21 0 [(1, .int .i64 n2), (2, .mptr 0 0)] [p1.c] ?_ ?_
    · refine st ?_
      simp
    refine cut 21 0 [(6, .mptr 5 0), (7, .int .i64 0)] (p1.c :: p1.c :: s.blksO 2 s.f.Locals.toNat) ?_ ?_
    · refine st ?_
      simp
      refine callRaw (fn_ok q1) (by simp) rfl ?_; simp
    refine awp_seq ?_
    refine cut 21 0 [(6, .mptr 5 0), (15, .bool false)] (p1.c :: p1.c :: s.blksO 2 s.f.Locals.toNat) ?_ ?_
    · refine st ?_
      simp [show eqI 0 0 = true from rfl]
    refine condF rfl rfl ?_
    refine awp_skip ?_
    refine seq_eq ?_
    refine cut 21 0 [(4, .msl 3 1 s.D.length), (5, .int .i64 0)] [p1.c, p1.c, s.f.c, row (cI .i64) s.D] ?_ ?_
    · refine st ?_
      simp
    refine awp_ret ?_
    simp
theorem verify_Reached_ok (fuel : Nat) (p1 : Api.Program) (n2 : Int) (r : List Bool × Int) (h : M.verify_Reached fuel p1 n2 = some r) : Pure Try.prog 24 [.agg [.sl (p1.Funs.map Api.Fun.c), .sl (p1.Texts.map cS), .int .i64 p1.Main], .int .i64 n2] (.tup [.sl (r.1.map cB), .int .i64 r.2]) := by
  rw [M.verify_Reached] at h
  obtain ⟨o, q1, h⟩ := bs h
  cases o with
  | inl e =>
    cases h
    have q2 := inl_ne q1
    refine pure_of_body Try.func24 (by rfl) (by rfl) (by simp) (by simp) (by simp) ?_
    refine cut 36 0 [(1, .int .i64 n2), (2, .mptr 0 0)] [p1.c] ?_ ?_
    · refine st ?_
      simp
    refine cut 36 0 [(7, .int .i64 e)] [] ?_ ?_
    · refine st ?_
      simp
      refine callRaw (fn_err q1) (by simp) rfl ?_; simp
    refine awp_seq ?_
    refine cut 36 0 [(7, .int .i64 e), (18, .bool true)] [] ?_ ?_
    · refine st ?_
      simp [q2]
    refine condT rfl rfl ?_
    refine cut 36 0 [(4, .sl []), (5, .int .i64 e)] [] ?_ ?_
    · refine st ?_
      simp
    refine awp_ret ?_
    refine ret_seq ?_
    simp
  | inr s =>
    dsimp only at h
    obtain ⟨o, l2, h⟩ := bs h
    cases h
    refine pure_of_body Try.func24 (by rfl) (by rfl) (by simp) (by simp) (by simp) ?_
    refine cut 36 0 [(1, .int .i64 n2), (2, .mptr 0 0)] [p1.c] ?_ ?_
    · refine st ?_
      simp
    refine cut 36 0 [(6, .mptr 5 0), (7, .int .i64 0)] (p1.c :: p1.c :: s.blksO 2 s.f.Locals.toNat) ?_ ?_
    · refine st ?_
      simp
      refine callRaw (fn_ok q1) (by simp) rfl ?_; simp
    refine awp_seq ?_
    refine cut 36 0 [(6, .mptr 5 0), (18, .bool false)] (p1.c :: p1.c :: s.blksO 2 s.f.Locals.toNat) ?_ ?_
    · refine st ?_
      simp [show eqI 0 0 = true from rfl]
    refine condF rfl rfl ?_
    refine awp_skip ?_
    refine seq_eq ?_
    refine cut 36 0 [(6, .mptr 5 0), (8, .osl ⟨1, 4⟩ (([] : List Bool).map cB))] (p1.c :: p1.c :: s.blksO 2 s.f.Locals.toNat) ?_ ?_
    · refine st ?_
      simp
    refine awp_seq ?_
    refine cut 36 0 [(8, .osl ⟨1, 4⟩ (([] : List Bool).map cB)), (23, .msl 3 1 s.D.length), (24, .int .i64 (s.D.length : Int)), (25, .int .i64 0)] [p1.c, p1.c, s.f.c, row (cI .i64) s.D] ?_ ?_
    · refine st ?_
      simp
    refine awp_block ?_
    refine awp_inv (fun z : Nat × List Bool => mkS 36 0 [(8, .osl ⟨1, 4⟩ (z.2.map cB)), (23, .msl 3 1 s.D.length), (24, .int .i64 (s.D.length : Int)), (25, .int .i64 ((z.1 : Nat) : Int))] [p1.c, p1.c, s.f.c, row (cI .i64) s.D]) (fun z => M.verify_Reached_l (s.D.drop z.1) z.2 = some o) (fun z => s.D.length - z.1) (0, []) l2 (le_mkS (by simp)) ?_
    rintro ⟨j, out⟩ l3
    dsimp only at l3 ⊢
    refine cut 36 0 [(8, .osl ⟨1, 4⟩ (out.map cB)), (23, .msl 3 1 s.D.length), (24, .int .i64 (s.D.length : Int)), (25, .int .i64 ((j : Nat) : Int)), (26, .bool (ltI ((j : Nat) : Int) (s.D.length : Int)))] [p1.c, p1.c, s.f.c, row (cI .i64) s.D] ?_ ?_
    · refine st ?_
      simp
    refine awp_seq ?_
    cases hd : s.D.drop j with
    | nil =>
      have g4 := drop_nil hd
      rw [hd, M.verify_Reached_l] at l3
      refine condF rfl g4 ?_
      refine awp_exit ?_
      refine exit_seq ?_
      refine exit_seq ?_
      refine exit_blk ?_
      cases l3
      refine seq_le (t := mkS 36 0 [(8, .osl ⟨1, 4⟩ (o.map cB))] [p1.c, p1.c, s.f.c, row (cI .i64) s.D]) ?_ (le_mkS (by simp))
      refine cut 36 0 [(4, .sl (o.map cB)), (5, .int .i64 0)] [] ?_ ?_
      · refine st ?_
        simp
      refine awp_ret ?_
      simp
    | cons t ts =>
      obtain ⟨g4, q5, q6, c7⟩ := drop_cons hd
      rw [hd, M.verify_Reached_l] at l3
      obtain ⟨out2, q8, l3⟩ := bs l3
      obtain ⟨q9, q10⟩ := app_ok q8
      try simp at q9
      have q11 := rdI (k := .i64) q5
      have c8 : j + 1 ≤ s.D.length := by omega
      refine condT rfl g4 ?_
      refine awp_skip ?_
      refine seq_eq ?_
      refine awp_seq ?_
      refine awp_block ?_
      refine cut 36 0 [(8, .osl ⟨1, 4⟩ (out.map cB)), (10, .int .i64 t), (23, .msl 3 1 s.D.length), (24, .int .i64 (s.D.length : Int)), (25, .int .i64 ((j : Nat) : Int))] [p1.c, p1.c, s.f.c, row (cI .i64) s.D] ?_ ?_
      · refine st ?_
        simp [q11, c7, c8]
      refine last 36 0 [(8, .osl ⟨1, 4⟩ (out2.map cB)), (23, .msl 3 1 s.D.length), (24, .int .i64 (s.D.length : Int)), (25, .int .i64 ((j : Nat) : Int))] [p1.c, p1.c, s.f.c, row (cI .i64) s.D] ?_ fun zz hs => ?_
      · refine st ?_
        simp [q9, q10]
      refine blk_n ?_
      refine seq_le ?_ hs
      refine factI 24 rfl fun f61 => ?_
      have q16 : Rng .i64 (((j : Nat) : Int) + 1) := by simp at f61; simp only [Rng, inR]; omega
      try simp at q16
      refine last 36 0 [(8, .osl ⟨1, 4⟩ (out2.map cB)), (23, .msl 3 1 s.D.length), (24, .int .i64 (s.D.length : Int)), (25, .int .i64 ((j + 1 : Nat) : Int))] [p1.c, p1.c, s.f.c, row (cI .i64) s.D] ?_ fun zz hs => ?_
      · refine st ?_
        simp [q16]
      exact ⟨(j + 1, out2), hs, by rw [q6]; exact l3, by show s.D.length - (j + 1) < s.D.length - j; omega⟩
def scF (m L : Nat) (R : List M.Blk) : Option Nat → AV
  | none => .sl []
  | some k => if k < m then .msl (k + 6) 1 L else .sl (((M.rowOf R k).getD []).map cB)
theorem rowsOf_ok {L : Nat} {R : List M.Blk} : ∀ {S : List (Option Nat)} {rs : List (List Bool)}, M.rowsOf L R S = some rs → rs.length = S.length ∧ S.map (scF 0 L R) = row (cL cB) rs ∧ ∀ k, some k ∈ S → ∃ l, M.rowOf R k = some l ∧ l.length = L
  | [], rs, h => by rw [M.rowsOf] at h; cases h; exact ⟨rfl, rfl, fun k hk => by cases hk⟩
  | none :: S, rs, h => by
    rw [M.rowsOf] at h
    obtain ⟨m, q, h⟩ := bs h
    cases h
    obtain ⟨h1, h2, h3⟩ := rowsOf_ok q
    refine ⟨by simp [h1], by simp only [List.map_cons, h2, scF]; rfl, fun k hk => h3 k (by simpa using hk)⟩
  | some k :: S, rs, h => by
    rw [M.rowsOf] at h
    obtain ⟨r, q1, h⟩ := bs h
    obtain ⟨u, q2, h⟩ := bs h
    obtain ⟨m, q, h⟩ := bs h
    cases h
    obtain ⟨h1, h2, h3⟩ := rowsOf_ok q
    refine ⟨by simp [h1], by simp only [List.map_cons, h2, scF, q1]; rfl, fun k' hk => ?_⟩
    rcases List.mem_cons.1 hk with e | e
    · cases e; exact ⟨r, q1, lenN_ok q2⟩
    · exact h3 k' e
theorem inert_flat {l : List AV} (h : l.all AV.inert = true) : AV.flatL l = true := by
  induction l with
  | nil => rfl
  | cons x l ih =>
    simp only [List.all_cons, Bool.and_eq_true, AV.inert] at h
    simp only [AV.flatL, Bool.and_eq_true]; exact ⟨h.1.2, ih h.2⟩
theorem blk_inert (b : M.Blk) : b.c.all AV.inert = true := by cases b <;> simp
theorem blk_fz (b : Nat) (blk : List AV) (x : M.Blk) : AV.fzL b blk x.c = x.c := fzL_flat b blk _ (inert_flat (blk_inert x))
theorem blk_okFz (b : Nat) (blk : List AV) (x : M.Blk) : okFzL b blk x.c = true := by
  cases x with
  | r l => simp
  | i x => simp
theorem sc_fz (m L : Nat) (R : List M.Blk) (b : M.Blk) (hb : R[m]? = some b) : ∀ S : List (Option Nat), (∀ k, some k ∈ S → ∃ l, M.rowOf R k = some l ∧ l.length = L) → AV.fzL (m + 6) b.c (S.map (scF (m + 1) L R)) = S.map (scF m L R) ∧ okFzL (m + 6) b.c (S.map (scF (m + 1) L R)) = true
  | [], _ => ⟨rfl, rfl⟩
  | none :: S, h => by
    obtain ⟨h1, h2⟩ := sc_fz m L R b hb S fun k hk => h k (List.mem_cons_of_mem _ hk)
    exact ⟨by simp only [List.map_cons, AV.fzL, h1, scF, AV.fz], by simp only [List.map_cons, okFzL, h2, scF]; rfl⟩
  | some k :: S, h => by
    obtain ⟨h1, h2⟩ := sc_fz m L R b hb S fun k hk => h k (List.mem_cons_of_mem _ hk)
    obtain ⟨l, h3, h4⟩ := h k (List.mem_cons_self ..)
    simp only [List.map_cons, AV.fzL, okFzL, h1, h2, scF, Bool.and_true, List.cons.injEq, and_true]
    rcases Nat.lt_trichotomy k m with h5 | h5 | h5
    · rw [if_pos (by omega), if_pos h5]
      have : ¬ k = m := by omega
      simp [AV.fz, this, okFz]
    · subst h5
      have h6 := rowOf_ok h3
      rw [hb] at h6; cases h6
      rw [if_pos (by omega), if_neg (by omega), h3]
      simp [AV.fz, okFz, h4]
    · rw [if_neg (by omega), if_neg (by omega)]
      exact ⟨rfl, rfl⟩
def stF (p : Api.Program) (s : M.VS) (m : Nat) : AState := mkS 21 0 [(4, .msl 4 1 s.S.length), (5, .int .i64 0)] (p.c :: p.c :: s.f.c :: row (cI .i64) s.D :: s.S.map (scF m s.f.Locals.toNat s.R) :: s.stO 2 :: (s.R.take m).map M.Blk.c)
theorem awp_rows {P : Program} {c : Code} {Q : Exit → AState → Prop} (p : Api.Program) (s : M.VS) (hS : ∀ k, some k ∈ s.S → ∃ l, M.rowOf s.R k = some l ∧ l.length = s.f.Locals.toNat) (h : AWp P c Q (stF p s 0)) : ∀ m, m ≤ s.R.length → AWp P c Q (stF p s m)
  | 0, _ => h
  | m + 1, hm => by
    have ih := awp_rows p s hS h m (by omega)
    obtain ⟨b, hb⟩ : ∃ b, s.R[m]? = some b := ⟨_, List.getElem?_eq_getElem hm⟩
    obtain ⟨f1, f2⟩ := sc_fz m s.f.Locals.toNat s.R b hb s.S hS
    have e0 : (s.R.take (m + 1)).map M.Blk.c = (s.R.take m).map M.Blk.c ++ [b.c] := by rw [List.take_add_one, hb]; simp
    have e1 : (stF p s (m + 1)).lb = m + 6 := by
      have : (s.R.take (m + 1)).length = m + 1 := by rw [List.length_take]; omega
      simp only [AState.lb, stF, blocks_mkS, List.length_cons, List.length_map, this]; omega
    have e2 : (stF p s (m + 1)).lblk = b.c := by
      have h1 : (s.R.take m).length = m := by rw [List.length_take]; omega
      simp only [AState.lblk, e1, stF, blocks_mkS, e0]
      simp [show min m s.R.length = m by omega]
    have e3 : (stF p s (m + 1)).blocks.take (m + 6) = p.c :: p.c :: s.f.c :: row (cI .i64) s.D :: s.S.map (scF (m + 1) s.f.Locals.toNat s.R) :: s.stO 2 :: (s.R.take m).map M.Blk.c := by
      have h1 : (s.R.take m).length = m := by rw [List.length_take]; omega
      simp only [stF, blocks_mkS, e0, List.take_succ_cons]
      rw [List.take_left' (by simp; omega)]
    have e4 : ((s.R.take m).map M.Blk.c).map (AV.fzL (m + 6) b.c) = (s.R.take m).map M.Blk.c := by
      rw [List.map_map]; exact List.map_congr_left fun x _ => blk_fz _ _ x
    have e5 : ∀ l : List M.Blk, okFzB (m + 6) b.c (l.map M.Blk.c) = true := fun l => by
      induction l with
      | nil => rfl
      | cons x l ih => simp only [List.map_cons, okFzB, blk_okFz, ih, Bool.and_self]
    have n3 : ¬ 3 = m + 6 := by omega
    have n4 : ¬ 4 = m + 6 := by omega
    refine awp_fz ⟨by simp [stF], by rw [e2]; exact blk_inert b, ?_⟩ (awp_le ih (le_mkS ?_))
    · rw [e1, e2, e3]
      have e7 := e5 (s.R.take m)
      rw [List.map_take] at e7
      simp [okFzB, f2, e7]
      try simp [okFzL, okFz, AV.fz, n3, n4]
    · have e6 : (stF p s (m + 1)).fz.blocks = p.c :: p.c :: s.f.c :: row (cI .i64) s.D :: s.S.map (scF m s.f.Locals.toNat s.R) :: s.stO 2 :: (s.R.take m).map M.Blk.c := by
        rw [blocks_fz, e1, e2, e3]
        simp only [List.map_cons, f1, e4, rfz_I]
        simp [AV.fzL, AV.fz, n3, n4]
      refine ⟨rfl, rfl, by simp, ?_, by rw [e6]; exact leBlocks_refl _, .inl (by rw [e6])⟩
      simp only [leTmps, get_fz, e1, e2]
      simp [stF, AV.fz, n4]
theorem verify_Set_ok (fuel : Nat) (p1 : Api.Program) (n2 : Int) (r : List (List Bool) × Int) (h : M.verify_Set fuel p1 n2 = some r) : Pure Try.prog 33 [.agg [.sl (p1.Funs.map Api.Fun.c), .sl (p1.Texts.map cS), .int .i64 p1.Main], .int .i64 n2] (.tup [.sl (r.1.map (cL cB)), .int .i64 r.2]) := by
  rw [M.verify_Set] at h
  obtain ⟨o, q1, h⟩ := bs h
  cases o with
  | inl e =>
    cases h
    have q2 := inl_ne q1
    refine pure_of_body Try.func33 (by rfl) (by rfl) (by simp) (by simp) (by simp) ?_
    refine cut 21 0 [(1, .int .i64 n2), (2, .mptr 0 0)] [p1.c] ?_ ?_
    · refine st ?_
      simp
    refine cut 21 0 [(7, .int .i64 e)] [] ?_ ?_
    · refine st ?_
      simp
      refine callRaw (fn_err q1) (by simp) rfl ?_; simp
    refine awp_seq ?_
    refine cut 21 0 [(7, .int .i64 e), (15, .bool true)] [] ?_ ?_
    · refine st ?_
      simp [q2]
    refine condT rfl rfl ?_
    refine cut 21 0 [(4, .sl []), (5, .int .i64 e)] [] ?_ ?_
    · refine st ?_
      simp
    refine awp_ret ?_
    refine ret_seq ?_
    simp
  | inr s =>
    dsimp only at h
    obtain ⟨rs, l2, h⟩ := bs h
    cases h
    obtain ⟨l3, l4, l5⟩ := rowsOf_ok l2
    refine pure_of_bodyF [true] Try.func33 (by rfl) (by rfl) (by simp) (by simp) (by simp) ?_
    refine cut 21 0 [(1, .int .i64 n2), (2, .mptr 0 0)] [p1.c] ?_ ?_
    · refine st ?_
      simp
    refine cut 21 0 [(6, .mptr 5 0), (7, .int .i64 0)] (p1.c :: p1.c :: s.blksO 2 s.f.Locals.toNat) ?_ ?_
    · refine st ?_
      simp
      refine callRaw (fn_ok q1) (by simp) rfl ?_; simp
    refine awp_seq ?_
    refine cut 21 0 [(6, .mptr 5 0), (15, .bool false)] (p1.c :: p1.c :: s.blksO 2 s.f.Locals.toNat) ?_ ?_
    · refine st ?_
      simp [show eqI 0 0 = true from rfl]
    refine condF rfl rfl ?_
    refine awp_skip ?_
    refine seq_eq ?_
    have e6 : s.S.map (scO 2 s.f.Locals.toNat) = s.S.map (scF s.R.length s.f.Locals.toNat s.R) := List.map_congr_left fun o ho => by
      cases o with
      | none => rfl
      | some k =>
        obtain ⟨l, h1, _⟩ := l5 k ho
        have := (List.getElem?_eq_some_iff.1 (rowOf_ok h1)).1
        simp only [scO, scF]; rw [if_pos this]
    refine cut 21 0 [(4, .msl 4 1 s.S.length), (5, .int .i64 0)] (p1.c :: p1.c :: s.f.c :: row (cI .i64) s.D :: s.S.map (scF s.R.length s.f.Locals.toNat s.R) :: s.stO 2 :: (s.R.take s.R.length).map M.Blk.c) ?_ ?_
    · refine st ?_
      simp [e6]
    refine awp_rows p1 s l5 ?_ s.R.length (Nat.le_refl _)
    refine awp_le (s' := mkS 21 0 [(4, .msl 4 1 rs.length), (5, .int .i64 0)] [p1.c, p1.c, s.f.c, row (cI .i64) s.D, row (cL cB) rs]) ?_ (le_mkS (by simp [stF, l4, l3]))
    refine awp_ret ?_
    simp
theorem verify_Check_ok (fuel : Nat) (p1 : Api.Program) (r : Int) (h : M.verify_Check fuel p1 = some r) : Pure Try.prog 16 [.agg [.sl (p1.Funs.map Api.Fun.c), .sl (p1.Texts.map cS), .int .i64 p1.Main]] (.int .i64 r) := by
  rw [M.verify_Check] at h
  refine pure_of_body Try.func16 (by rfl) (by rfl) (by simp) (by simp) (by simp) ?_
  refine cut 25 0 [(1, .mptr 0 0)] [p1.c] ?_ ?_
  · refine st ?_
    simp
  obtain ⟨v, q1, h⟩ := bs h
  refine awp_seq ?_
  refine cut 25 0 [(1, .mptr 0 0), (9, .bool (!v))] [p1.c] ?_ ?_
  · refine st ?_
    simp
    refine callPure (bytecode_Valid_ok fuel p1 v q1) (by simp) rfl ?_
    simp
  refine spc h rfl (fun g2 h => ?_) fun g2 h => ?_
  · cases h
    refine cut 25 0 [(2, .int .i64 1)] [] ?_ ?_
    · refine st ?_
      simp
    refine awp_ret ?_
    refine ret_seq ?_
    simp
  refine awp_skip ?_
  refine seq_eq ?_
  refine awp_seq ?_
  refine cut 25 0 [(11, .sl (p1.Funs.map Api.Fun.c)), (12, .int .i64 (p1.Funs.length : Int)), (13, .int .i64 0)] [] ?_ ?_
  · refine st ?_
    simp
  refine awp_block ?_
  refine awp_inv (fun j : Nat => mkS 25 0 [(11, .sl (p1.Funs.map Api.Fun.c)), (12, .int .i64 (p1.Funs.length : Int)), (13, .int .i64 ((j : Nat) : Int))] []) (fun j => M.verify_Check_l fuel (p1.Funs.drop j) = some r) (fun j => p1.Funs.length - j) 0 h (le_mkS (by simp)) ?_
  intro j l3
  refine cut 25 0 [(11, .sl (p1.Funs.map Api.Fun.c)), (12, .int .i64 (p1.Funs.length : Int)), (13, .int .i64 ((j : Nat) : Int)), (14, .bool (ltI ((j : Nat) : Int) (p1.Funs.length : Int)))] [] ?_ ?_
  · refine st ?_
    simp
  refine awp_seq ?_
  cases hd : p1.Funs.drop j with
  | nil =>
    have g4 := drop_nil hd
    rw [hd, M.verify_Check_l] at l3
    cases l3
    refine condF rfl g4 ?_
    refine awp_exit ?_
    refine exit_seq ?_
    refine exit_seq ?_
    refine exit_blk ?_
    refine seq_le (t := mkS 25 0 [] []) ?_ (le_mkS (by simp))
    refine cut 25 0 [(2, .int .i64 0)] [] ?_ ?_
    · refine st ?_
      simp
    refine awp_ret ?_
    simp
  | cons t ts =>
    obtain ⟨g4, q5, q6, c7⟩ := drop_cons hd
    rw [hd, M.verify_Check_l] at l3
    obtain ⟨o, q8, l3⟩ := bs l3
    obtain ⟨b, s'⟩ := o
    dsimp only at l3
    refine condT rfl g4 ?_
    refine awp_skip ?_
    refine seq_eq ?_
    refine awp_seq ?_
    refine awp_block ?_
    refine cut 25 0 [(4, .mptr 0 0), (11, .sl (p1.Funs.map Api.Fun.c)), (12, .int .i64 (p1.Funs.length : Int)), (13, .int .i64 ((j : Nat) : Int))] [t.c] ?_ ?_
    · refine st ?_
      simp [q5, c7]
    have r12 := analyze_at [t.c] fuel t b s' q8
    refine cut 25 0 [(6, .bool b), (11, .sl (p1.Funs.map Api.Fun.c)), (12, .int .i64 (p1.Funs.length : Int)), (13, .int .i64 ((j : Nat) : Int))] [] ?_ ?_
    · refine st ?_
      simp
      cases b with
      | true => refine callRaw r12 (by simp) rfl ?_; simp
      | false => refine callRaw r12 (by simp) rfl ?_; simp
    refine cut 25 0 [(11, .sl (p1.Funs.map Api.Fun.c)), (12, .int .i64 (p1.Funs.length : Int)), (13, .int .i64 ((j : Nat) : Int)), (23, .bool (!b))] [] ?_ ?_
    · refine st ?_
      simp
    refine spc l3 rfl (fun g9 l3 => ?_) fun g9 l3 => ?_
    · cases l3
      refine cut 25 0 [(2, .int .i64 24)] [] ?_ ?_
      · refine st ?_
        simp
      refine awp_ret ?_
      refine ret_blk ?_
      refine ret_seq ?_
      refine ret_seq ?_
      refine ret_blk ?_
      refine ret_seq ?_
      simp
    refine awp_skip ?_
    refine blk_n ?_
    refine seq_eq ?_
    refine factI 12 rfl fun f61 => ?_
    have q16 : Rng .i64 (((j : Nat) : Int) + 1) := by simp at f61; simp only [Rng, inR]; omega
    try simp at q16
    refine last 25 0 [(11, .sl (p1.Funs.map Api.Fun.c)), (12, .int .i64 (p1.Funs.length : Int)), (13, .int .i64 ((j + 1 : Nat) : Int))] [] ?_ fun zz hs => ?_
    · refine st ?_
      simp [q16]
    exact ⟨j + 1, hs, by rw [q6]; exact l3, by show p1.Funs.length - (j + 1) < p1.Funs.length - j; omega⟩
end Go.Proofs.Ythbjlmoaceaeeaa
set_option linter.unusedVariables false
set_option linter.unusedSimpArgs false
set_option maxRecDepth 100000
set_option maxHeartbeats 1000000
namespace Go.Proofs.Ythbjlmoaceaeeaa
open Go Go.Abs
theorem slices_Equal_int_ok (fuel : Nat) (s11 : (List Int)) (s22 : (List Int)) (r : Bool) (h : M.slices_Equal_int fuel s11 s22 = some r) : Pure Try.prog 27 [.sl (s11.map (cI .i64)), .sl (s22.map (cI .i64))] (.bool r) := by
  rw [M.slices_Equal_int] at h
  refine pure_of_body Try.func27 (by rfl) (by rfl) (by simp) (by simp) (by simp) ?_
  refine cut 26 0 [(0, .sl (s11.map (cI .i64))), (1, .sl (s22.map (cI .i64)))] [] ?_ ?_
  · refine st ?_
    simp
  refine awp_seq ?_
  refine cut 26 0 [(0, .sl (s11.map (cI .i64))), (1, .sl (s22.map (cI .i64))), (10, .bool (!(eqI (s11.length : Int) (s22.length : Int))))] [] ?_ ?_
  · refine st ?_
    simp
  rcases sp h with ⟨g3, h⟩ | ⟨g3, h⟩
  · have g4 := notT g3
    have c5 := eqF g4
    refine condT rfl g3 ?_
    refine cut 26 0 [(4, .bool false)] [] ?_ ?_
    · refine st ?_
      simp
    refine awp_ret ?_
    refine ret_seq ?_
    obtain rfl := oi h
    simp
  have g6 := notF g3
  have c7 := eqT g6
  refine condF rfl g3 ?_
  refine awp_skip ?_
  refine seq_eq ?_
  refine awp_seq ?_
  refine cut 26 0 [(0, .sl (s11.map (cI .i64))), (1, .sl (s22.map (cI .i64))), (12, .int .i64 (s11.length : Int)), (13, .int .i64 0)] [] ?_ ?_
  · refine st ?_
    simp
  refine awp_block ?_
  obtain ⟨o10, l11, h⟩ := bs h
  refine awp_inv (fun p : Nat × Nat => mkS 26 0 [(0, .sl (s11.map (cI .i64))), (1, .sl (s22.map (cI .i64))), (12, .int .i64 (s11.length : Int)), (13, .int .i64 ((p.2 : Nat) : Int))] []) (fun p => M.slices_Equal_int_l1 s11 s22 p.1 p.2 = some o10) (fun p => p.1) (fuel, 0) l11 (le_mkS (by simp)) ?_
  rintro ⟨k12, i8⟩ l11
  try dsimp only at l11 ⊢
  cases k12 with
  | zero =>
    rw [M.slices_Equal_int_l1] at l11; cases l11
  | succ k13 =>
    rw [M.slices_Equal_int_l1] at l11
    refine cut 26 0 [(0, .sl (s11.map (cI .i64))), (1, .sl (s22.map (cI .i64))), (12, .int .i64 (s11.length : Int)), (13, .int .i64 ((i8 : Nat) : Int)), (14, .bool (ltI ((i8 : Nat) : Int) (s11.length : Int)))] [] ?_ ?_
    · refine st ?_
      simp
    refine awp_seq ?_
    rcases sp l11 with ⟨g14, l11⟩ | ⟨g14, l11⟩
    · have c15 := ltT g14
      refine condT rfl g14 ?_
      refine factL 0 rfl fun f16 => ?_
      rw [List.length_map] at f16
      refine awp_skip ?_
      refine seq_eq ?_
      refine awp_seq ?_
      refine awp_block ?_
      refine cut 26 0 [(0, .sl (s11.map (cI .i64))), (1, .sl (s22.map (cI .i64))), (5, .int .i64 ((i8 : Nat) : Int)), (12, .int .i64 (s11.length : Int)), (13, .int .i64 ((i8 : Nat) : Int))] [] ?_ ?_
      · refine st ?_
        simp
      obtain ⟨x17, q18, l11⟩ := bs l11
      obtain ⟨x19, q20, l11⟩ := bs l11
      refine cut 26 0 [(0, .sl (s11.map (cI .i64))), (1, .sl (s22.map (cI .i64))), (12, .int .i64 (s11.length : Int)), (13, .int .i64 ((i8 : Nat) : Int)), (24, .bool (!(eqI x17 x19)))] [] ?_ ?_
      · refine awp_region_draw [] mixed (n := 26) rfl (by decide) ?_
        simp [q18, q20]
      rcases sp l11 with ⟨g21, l11⟩ | ⟨g21, l11⟩
      · have g22 := notT g21
        have c23 := eqF g22
        refine condT rfl g21 ?_
        refine cut 26 0 [(4, .bool false)] [] ?_ ?_
        · refine st ?_
          simp
        refine awp_ret ?_
        refine ret_blk ?_
        refine ret_seq ?_
        replace h := retL l11 h
        refine ret_seq ?_
        refine ret_blk ?_
        refine ret_seq ?_
        obtain rfl := oi h
        simp
      have g24 := notF g21
      have c25 := eqT g24
      refine condF rfl g21 ?_
      refine awp_skip ?_
      refine blk_n ?_
      refine seq_eq ?_
      have q26 : Rng .i64 (((i8 : Nat) : Int) + 1) := by simp only [Rng, inR]; omega
      try simp at q26
      refine last 26 0 [(0, .sl (s11.map (cI .i64))), (1, .sl (s22.map (cI .i64))), (12, .int .i64 (s11.length : Int)), (13, .int .i64 ((i8 + 1 : Nat) : Int))] [] ?_ fun zz hs => ?_
      · refine st ?_
        simp [q26]
      exact ⟨(k13, i8 + 1), hs, l11, by simp⟩
    have c27 := ltF g14
    refine condF rfl g14 ?_
    refine factL 0 rfl fun f28 => ?_
    rw [List.length_map] at f28
    refine awp_exit ?_
    refine exit_seq ?_
    rcases o10 with o10 | o9
    · cases l11
    have q29 := Sum.inr.inj (Option.some.inj l11)
    replace h := elimR h
    refine exit_seq ?_
    refine exit_blk ?_
    refine seq_le (t := mkS 26 0 [] []) ?_ (le_mkS (by simp []))
    refine cut 26 0 [(4, .bool true)] [] ?_ ?_
    · refine st ?_
      simp
    refine awp_ret ?_
    obtain rfl := oi h
    simp
end Go.Proofs.Ythbjlmoaceaeeaa
set_option linter.unusedVariables false
set_option linter.unusedSimpArgs false
set_option maxRecDepth 100000
set_option maxHeartbeats 1000000
namespace Go.Proofs.Ythbjlmoaceaeeaa
open Go Go.Abs
theorem law48_one_ok (locals1 : Int) (depth2 : Int) (code3 : (List Api.Instr)) (r : Api.Program) (h : M.law48_one locals1 depth2 code3 = some r) : Pure Try.prog 45 [.int .i64 locals1, .int .i64 depth2, .sl (code3.map Api.Instr.c)] (.agg [.sl (r.Funs.map Api.Fun.c), .sl (r.Texts.map cS), .int .i64 r.Main]) := by
  rw [M.law48_one] at h
  refine pure_of_body Try.func45 (by rfl) (by rfl) (by simp) (by simp) (by simp) ?_
  refine cut 13 0 [(0, .int .i64 locals1), (1, .int .i64 depth2), (2, .sl (code3.map Api.Instr.c)), (6, .mptr 0 0)] [[.osl ⟨4, 44⟩ (([] : List Api.Fun).map Api.Fun.c), .osl ⟨1, 9⟩ (([] : List (List UInt8)).map cS), .int .i64 0]] ?_ ?_
  · refine st ?_
    simp
  refine cut 13 0 [(6, .mptr 0 0)] [[.sl ([(Api.Fun.mk 0 locals1 depth2 code3)].map Api.Fun.c), .osl ⟨1, 9⟩ (([] : List (List UInt8)).map cS), .int .i64 0]] ?_ ?_
  · refine st ?_
    simp
  refine awp_ret ?_
  obtain rfl := oi h
  simp
end Go.Proofs.Ythbjlmoaceaeeaa
