/- For every input the law LexerTokens returns true. Part 8 of 12. No condition. -/
import Derived.Test.YthbjlmoaceaeeaaLBg
import Derived.Lib.Builder
import Derived.Lib.UnsafeStr
set_option linter.unusedVariables false
set_option linter.unusedSimpArgs false
set_option maxRecDepth 100000
namespace Go.Proofs.Ythbjlmoaceaeeaa
open Go Go.Abs Go.Proofs
set_option maxHeartbeats 1000000 in
theorem copyCheck_used (b : Nat) (w : World) (h0 : w.cell? ⟨b, 0, none⟩ = some (.pointer (some ⟨b, 0, none⟩))) :
    Calls Try.prog 124 #[.pointer (some ⟨b, 0, none⟩)] w fun e w' => e = .returned (.tuple #[]) ∧ w' = w := by
  go_enter Try.func124, Try.ntmps124
  go_wp2
  rw [Lib.run_neq_ptr_same w _ Try.underlying117 (show Try.prog.info? 119 = some Try.t119 from rfl)]
  go_wp2
  go_end0
  exact ⟨rfl, rfl⟩
set_option maxHeartbeats 1000000 in
theorem copyCheck_fresh (b : Nat) (w : World) (h0 : w.cell? ⟨b, 0, none⟩ = some (.pointer none)) (hsh : w.shape? b = some (119, 2)) (hfz : w.frozen? ⟨b, 0, none⟩ = false) :
    Calls Try.prog 124 #[.pointer (some ⟨b, 0, none⟩)] w fun e w' => e = .returned (.tuple #[]) ∧ w' = w.setCell ⟨b, 0, none⟩ (.pointer (some ⟨b, 0, none⟩)) := by
  have hj : Try.prog.info? 119 = some Try.t119 := rfl
  go_enter Try.func124, Try.ntmps124
  go_wp2
  rw [Lib.run_to_unsafe w ⟨b, 0, none⟩ Try.underlying117 Try.underlying171 hj (by decide) hsh (Nat.zero_lt_succ 1)]
  simp only [Result.andThen]
  rw [Oper.upon_value]
  go_wp2
  rw [run_callFunc_extern Try.func143 (by kernel_rfl) (by kernel_rfl) (by kernel_rfl) (e := Extern.AbiNoEscape.same) (by kernel_rfl)]
  rw [Lib.run_noEscape]
  simp only [Result.andThen]
  rw [Oper.upon_value]
  go_wp2
  rw [Lib.run_from_unsafe w ⟨b, 0, none⟩ Try.underlying171 Try.underlying117 hj hsh (by kernel_rfl)]
  simp only [Result.andThen]
  rw [Oper.upon_value]
  go_wp2
  go_end0
  exact ⟨rfl, rfl⟩
theorem setSelf {g : Gh} {bs : List (List AV)} {w : World} (h : Sto g bs w) {i k ty : Nat} {rest : List AV} (hb0 : bs[i]? = some (.baddr ty i :: rest)) (hk0 : g.σ[i]? = some k) :
    Sto g bs (w.setCell ⟨k, 0, none⟩ (.pointer (some ⟨k, 0, none⟩))) := by
  have hkm : k ∈ g.σ := List.mem_of_getElem? hk0
  have hblock : ∀ j, j ≠ k → (w.setCell ⟨k, 0, none⟩ (.pointer (some ⟨k, 0, none⟩))).heap[j]? = w.heap[j]? := fun j hj => RowKit.Below.heap_setCell _ _ _ _ hj
  refine { h with
    imm := fun y u hy => ?_
    blk := fun i' blk k' hb hk' => ?_
    ownσ := fun p k' hk' => by simpa using h.ownσ p k' hk' }
  · rw [World.cell?_setCell_other _ _ _ _ (fun e => h.immσ y u hy (by rw [← e]; exact hkm))]; exact h.imm y u hy
  · obtain ⟨c, ty', h1, h2, h3⟩ := h.blk i' blk k' hb hk'
    by_cases hi : i' = i
    · subst hi
      rw [hb0] at hb; cases hb
      rw [hk0] at hk'; cases hk'
      refine ⟨c.setIfInBounds 0 (.pointer (some ⟨k, 0, none⟩)), ty', ?_, by simpa using h2, fun j y hy => ?_⟩
      · simp only [World.setCell, Array.getElem?_modify, if_true]
        rw [h1]; rfl
      · obtain ⟨h5, h6, h7⟩ := h3 j y hy
        rw [getD_set_eq]
        cases j with
        | zero =>
          simp only [List.length_cons] at h2
          rw [if_pos ⟨rfl, by omega⟩]
          simp at hy; subst hy
          exact ⟨h5, .baddr _ _ _ hk0, OwnsBy.of_not rfl⟩
        | succ j =>
          rw [if_neg (fun e => by have := e.1; omega)]
          exact ⟨h5, h6, h7.world (fun _ _ _ _ hs => hs.setCell) shape_setCell⟩
    · refine ⟨c, ty', ?_, h2, fun j x hx => ?_⟩
      · rw [hblock k' (fun e => ?_)]
        · exact h1
        · subst e
          obtain ⟨l1, e1⟩ := List.getElem?_eq_some_iff.1 hk'; obtain ⟨l2, e2⟩ := List.getElem?_eq_some_iff.1 hk0
          exact hi (nodup_inj h.nodup l1 l2 (by rw [e1, e2]))
      · obtain ⟨h5, h6, h7⟩ := h3 j x hx
        exact ⟨h5, h6, h7.world (fun _ _ _ _ hs => hs.setCell) shape_setCell⟩
theorem copyCheck_raw (x : AV) : Raw Try.prog 124 [.mptr 0 0] [[.baddr 119 0, x]] (.tup []) [[.baddr 119 0, x]] := by
  have hb : ([[.baddr 119 0, x]] : List (List AV))[0]? = some [.baddr 119 0, x] := rfl
  generalize ([[.baddr 119 0, x]] : List (List AV)) = bs at hb
  refine ⟨⟨_, Try.func124, rfl, rfl⟩, fun g w vals hs h0 ha => ?_⟩
  obtain ⟨hsz, hv⟩ := ha
  have hv0 := hv 0 _ rfl
  obtain ⟨v0, rfl⟩ := Array.size_eq_one_iff.1 hsz
  cases hv0' : (#[v0] : Array Value).getD 0 undef with
  | pointer p =>
    rw [hv0'] at hv0
    cases hv0 with
    | mptr _ _ k hk =>
      have : v0 = .pointer (some ⟨k, 0, none⟩) := hv0'
      subst this
      obtain ⟨c, ty, h1, h2, h3⟩ := hs.blk 0 _ k hb hk
      obtain ⟨h5, h6, h7⟩ := h3 0 _ rfl
      have hty : ty = 119 := by
        rcases h5 with h5 | ⟨b, h5⟩
        · cases h5
        · cases h5; rfl
      subst hty
      have hc0 := cell_of_block h1 0 (by rw [h2]; exact Nat.zero_lt_succ _)
      have hkm : k ∈ g.σ := List.mem_of_getElem? hk
      generalize c.getD 0 undef = u at h6 hc0
      cases h6 with
      | baddr0 _ _ _ =>
        refine (copyCheck_fresh k w hc0 (by unfold World.shape?; rw [h1]; show some (119, c.size) = _; rw [h2]; rfl) (cells_of_frozen h1 0)).mono ?_
        rintro e w' ⟨rfl, rfl⟩
        refine ⟨g, _, rfl, .tup [] #[] rfl (by simp), setSelf hs hb hk, ?_, h0⟩
        have h8 := Ext.refl' w g (fun k hk => hs.σ_lt hk) h0
        exact { h8 with
          keep := fun j hj hT => by
            rw [RowKit.Below.heap_setCell _ _ _ _ (fun e => ?_)]
            subst e
            exact hT (.inl hkm)
          size := by simp
          os := h8.os
          tape := h8.tape
          output := h8.output }
      | baddr _ _ k' hk' =>
        rw [hk] at hk'; cases hk'
        refine (copyCheck_used k w hc0).mono ?_
        rintro e w' ⟨rfl, rfl⟩
        exact ⟨g, _, rfl, .tup [] #[] rfl (by simp), hs, Ext.refl' w' g (fun k hk => hs.σ_lt hk) h0, h0⟩
  | _ => rw [hv0'] at hv0; cases hv0
theorem strings_Builder_copyCheck_ok (b : List UInt8) (r : Unit) (h : M.strings_Builder_copyCheck b = some r) :
    Raw Try.prog 124 [.mptr 0 0] [[.baddr 119 0, .osl ⟨1, 5⟩ (b.map cU)]] (.tup []) [[.baddr 119 0, .osl ⟨1, 5⟩ (b.map cU)]] := copyCheck_raw _
section
variable (b : Nat) (w : World)
theorem us_none (p : Option Addr) (w : World) : (Builtin.unsafeString_ #[161, 3] 9 #[.pointer p, .int .i64 0]).run Try.prog w = .ok (.string ⟨#[]⟩) w := Lib.run_unsafeString_none w _ _ _ p
set_option maxHeartbeats 2000000 in
set_option maxRecDepth 100000 in
theorem string_nil (h0 : w.cell? ⟨b, 1, none⟩ = some (.slice none 0 0)) :
    Calls Try.prog 75 #[.pointer (some ⟨b, 0, none⟩)] w fun e w' => e = .returned (.string ⟨#[]⟩) ∧ w' = w.drew := by
  have c1 : w.drew.cell? ⟨b, 1, none⟩ = some (.slice none 0 0) := h0
  have hUS := us_none
  have hSD : (Builtin.unsafeSliceData_ #[66] 161 #[.slice none 0 0]).run Try.prog w.drew = .ok (.pointer none) w.drew := rfl
  go_enter Try.func75, Try.ntmps75
  go_wp2
  go_region
  all_goals (go_wp2; go_ret; exact ⟨rfl, rfl⟩)
set_option maxHeartbeats 2000000 in
set_option maxRecDepth 100000 in
theorem string_room (a : Addr) (k : Nat) (h0 : w.cell? ⟨b, 1, none⟩ = some (.slice (some a) 0 (k + 1))) :
    Calls Try.prog 75 #[.pointer (some ⟨b, 0, none⟩)] w fun e w' => e = .returned (.string ⟨#[]⟩) ∧ w' = w.drew := by
  have c1 : w.drew.cell? ⟨b, 1, none⟩ = some (.slice (some a) 0 (k + 1)) := h0
  have hUS := us_none
  have hSD : (Builtin.unsafeSliceData_ #[66] 161 #[.slice (some a) 0 (k + 1)]).run Try.prog w.drew = .ok (.pointer (some a)) w.drew := rfl
  go_enter Try.func75, Try.ntmps75
  go_wp2
  go_region
  all_goals (go_wp2; go_ret; exact ⟨rfl, rfl⟩)
set_option maxHeartbeats 2000000 in
set_option maxRecDepth 100000 in
theorem string_noroom (a : Addr) (sh : TypeId × Nat) (hsh : w.shape? a.block = some sh) (h0 : w.cell? ⟨b, 1, none⟩ = some (.slice (some a) 0 0)) (hlt : b < w.heap.size) :
    Calls Try.prog 75 #[.pointer (some ⟨b, 0, none⟩)] w fun e w' => e = .returned (.string ⟨#[]⟩) ∧ w' = (w.alloc (.view a 5)).drew := by
  have c1 : w.drew.cell? ⟨b, 1, none⟩ = some (.slice (some a) 0 0) := h0
  have hUS := us_none
  have hSD : (Builtin.unsafeSliceData_ #[66] 161 #[.slice (some a) 0 0]).run Try.prog w.drew = .ok (.pointer (some ⟨w.drew.heap.size, 0, none⟩)) (w.drew.alloc (.view a 5)) :=
    Lib.run_unsafeSliceData_zero w.drew _ _ 5 Try.underlying161 a 0 sh hsh
  have c3 : (w.alloc (.view a 5)).drew.cell? ⟨b, 1, none⟩ = some (.slice (some a) 0 0) := by
    show (w.alloc (.view a 5)).cell? ⟨b, 1, none⟩ = _
    rw [World.cell?_alloc_lt _ _ _ hlt]; exact h0
  have c2 : (w.drew.alloc (.view a 5)).cell? ⟨b, 1, none⟩ = some (.slice (some a) 0 0) := c3
  go_enter Try.func75, Try.ntmps75
  go_wp2
  go_region
  all_goals (go_wp2; go_ret; exact ⟨rfl, rfl⟩)
set_option maxHeartbeats 2000000 in
set_option maxRecDepth 100000 in
theorem string_some (q cells : Nat) (l : List UInt8) (cap : Nat) (h1 : l ≠ []) (hlc : l.length ≤ cap) (hn : l.length ≤ cells) (h63 : l.length ≤ 9223372036854775807) (hsh : w.shape? q = some (5, cells))
    (h0 : w.cell? ⟨b, 1, none⟩ = some (.slice (some ⟨q, 0, none⟩) l.length cap)) (hcell : ∀ j x, l[j]? = some x → w.cell? ((⟨q, 0, none⟩ : Addr).add j) = some (.int .u8 x.toNat)) :
    Calls Try.prog 75 #[.pointer (some ⟨b, 0, none⟩)] w fun e w' => e = .returned (.string ⟨l.toArray⟩) ∧ w' = w.drew.freeze ⟨q, 0, none⟩ l.length := by
  have c1 : w.drew.cell? ⟨b, 1, none⟩ = some (.slice (some ⟨q, 0, none⟩) l.length cap) := h0
  have hpos : l.length ≠ 0 := by simpa using h1
  have hSD : (Builtin.unsafeSliceData_ #[66] 161 #[.slice (some ⟨q, 0, none⟩) l.length cap]).run Try.prog w.drew = .ok (.pointer (some ⟨q, 0, none⟩)) w.drew :=
    Lib.run_unsafeSliceData_row w.drew _ _ _ _ _ (by omega)
  have hUS : (Builtin.unsafeString_ #[161, 3] 9 #[.pointer (some ⟨q, 0, none⟩), .int .i64 l.length]).run Try.prog w.drew = .ok (.string ⟨l.toArray⟩) (w.drew.freeze ⟨q, 0, none⟩ l.length) :=
    Lib.run_unsafeString_row w.drew 161 3 9 5 Try.underlying161 (by kernel_rfl) q cells hsh l h1 hn h63 hcell
  clear h1 hpos hlc hn h63 hcell
  generalize hw : w.drew.freeze ⟨q, 0, none⟩ l.length = wf at hUS ⊢
  go_enter Try.func75, Try.ntmps75
  go_wp2
  go_region
  all_goals (go_wp2; go_ret; exact ⟨rfl, rfl⟩)
end
theorem Sto.move {g : Gh} {bs : List (List AV)} {w w' : World} (h : Sto g bs w) (hc : ∀ a v, w.cell? a = some v → w'.cell? a = some v) (hb : ∀ k, k ∈ g.σ → w'.heap[k]? = w.heap[k]?) (hsz : w.heap.size ≤ w'.heap.size)
    (hown : ∀ (i j k : Nat) c ty blk x, bs[i]? = some blk → g.σ[i]? = some k → w.heap[k]? = some (.cells c ty (0, 0)) → blk[j]? = some x → OwnsBy g.imm w (g.own (.cell i j)) x (c.getD j undef) → OwnsBy g.imm w' (g.own (.cell i j)) x (c.getD j undef)) :
    Sto g bs w' := { h with
  imm := fun x v hx => hc _ _ (h.imm x v hx)
  blk := fun i blk k h1 h2 => by
    obtain ⟨c, ty, q1, q2, q3⟩ := h.blk i blk k h1 h2
    refine ⟨c, ty, by rw [hb k (List.mem_of_getElem? h2)]; exact q1, q2, fun j x hx => ?_⟩
    obtain ⟨r1, r2, r3⟩ := q3 j x hx
    exact ⟨r1, r2, hown i j k c ty blk x h1 h2 q1 hx r3⟩
  ownσ := fun p k hp => ⟨(h.ownσ p k hp).1, Nat.lt_of_lt_of_le (h.ownσ p k hp).2 hsz⟩ }
theorem sto_drew {g : Gh} {bs : List (List AV)} {w : World} (h : Sto g bs w) : Sto g bs w.drew :=
  Sto.move h (fun _ _ h => h) (fun _ _ => rfl) (Nat.le_refl _) fun _ _ _ _ _ _ _ _ _ _ _ h => h
theorem rowSh_shape {w : World} {k : Nat} {sh : TypeId × Nat} (h : rowSh w k = some sh) : w.shape? k = some sh := by
  unfold rowSh at h; unfold World.shape?
  split at h
  · rename_i c ty fr e; rw [e]
    split at h
    · exact h
    · cases h
  · cases h
theorem heap_freeze (w : World) (q n k : Nat) (h : k ≠ q) : (w.freeze ⟨q, 0, none⟩ n).heap[k]? = w.heap[k]? := by
  unfold World.freeze
  split
  · rfl
  · simp only [Array.getElem?_modify]; rw [if_neg (fun e => h e.symm)]
theorem freeze_at {w : World} {q n : Nat} {c : Array Value} {ty : TypeId} {fr : Nat × Nat} (h : w.heap[q]? = some (.cells c ty fr)) (hn : n ≠ 0) :
    (w.freeze ⟨q, 0, none⟩ n).heap[q]? = some (.cells c ty (if fr.1 == fr.2 then (0, n) else (0, max fr.2 n))) := by
  unfold World.freeze
  rw [if_neg hn]
  simp only [Array.getElem?_modify, if_true, h, Option.map_some]
  obtain ⟨lo, hi⟩ := fr
  simp
theorem strings_Builder_String_ok (b : List UInt8) (r : List UInt8) (h : M.strings_Builder_String b = some r) :
    Raw Try.prog 75 [.mptr 0 0] [[.baddr 119 0, .osl ⟨1, 5⟩ (b.map cU)]] (.str r) [[.baddr 119 0, .osl ⟨1, 5⟩ (b.map cU)]] := by
  obtain rfl := Option.some.inj h
  refine ⟨⟨_, Try.func75, rfl, rfl⟩, fun g w vals hs h0 ha => ?_⟩
  obtain ⟨hsz, hv⟩ := ha
  have hv0 := hv 0 _ rfl
  obtain ⟨v0, rfl⟩ := Array.size_eq_one_iff.1 hsz
  cases hv0' : (#[v0] : Array Value).getD 0 undef with
  | pointer p =>
    rw [hv0'] at hv0
    cases hv0 with
    | mptr _ _ k hk =>
      have : v0 = .pointer (some ⟨k, 0, none⟩) := hv0'
      subst this
      obtain ⟨c, ty, h1, h2, h3⟩ := hs.blk 0 _ k rfl hk
      obtain ⟨h5, h6, h7⟩ := h3 1 _ rfl
      have hc1 := cell_of_block h1 1 (by rw [h2]; exact Nat.lt_succ_self _)
      have hkl := hs.σ_lt (List.mem_of_getElem? hk)
      have hrefl := Ext.refl' w g (fun k hk => hs.σ_lt hk) h0
      have hext : ∀ w' : World, (∀ k, k < w.heap.size → ¬ Fx.T ⟨w, g⟩ k → w'.heap[k]? = w.heap[k]?) → w.heap.size ≤ w'.heap.size → w'.os = w.os → w'.tape = w.tape → w'.output = w.output → Ext ⟨w, g⟩ g w' := fun w' p1 p2 p3 p4 p5 =>
        { hrefl with keep := p1, size := p2, os := p3, tape := p4, output := p5 }
      have hstr : b.length ≤ 281474976710656 → Rep g.imm g.σ (.str b) (.string ⟨b.toArray⟩) := fun hl => .str _ _ (by simp) (by omega)
      generalize hcv : c.getD 1 undef = u at h6 h7 hc1
      cases h6' : b with
      | nil =>
        subst h6'
        have hrs : Rep g.imm g.σ (.str []) (.string ⟨#[]⟩) := hstr (by simp)
        cases h6 with
        | osl0 _ =>
          refine (string_nil k w hc1).mono ?_
          rintro e w' ⟨rfl, rfl⟩
          exact ⟨g, _, rfl, hrs, sto_drew hs, hext _ (fun _ _ _ => rfl) (Nat.le_refl _) rfl rfl rfl, h0⟩
        | osl _ _ a n cap vs hn hcap hbd he hi hr =>
          have hn0 : n = 0 := by simpa using hn
          subst hn0
          cases cap with
          | succ cap =>
            refine (string_room k w a cap hc1).mono ?_
            rintro e w' ⟨rfl, rfl⟩
            exact ⟨g, _, rfl, hrs, sto_drew hs, hext _ (fun _ _ _ => rfl) (Nat.le_refl _) rfl rfl rfl, h0⟩
          | zero =>
            rcases h7 _ _ _ rfl with h8 | ⟨a', h8, h9, ⟨ha1, ha2, m, h10, h11⟩, h12⟩
            · cases h8
            · cases h8
              refine (string_noroom k w a _ (rowSh_shape h10) hc1 hkl).mono ?_
              rintro e w' ⟨rfl, rfl⟩
              refine ⟨g, _, rfl, hrs, sto_drew (Sto.move hs (fun x v hx => ?_) (fun k' hk' => heap_alloc_old w _ (hs.σ_lt hk')) (by simp) fun i j k' c' ty' blk x e1 e2 e3 e4 e5 => ?_), hext _ (fun k' hk' _ => heap_alloc_old w _ hk') (by simp) rfl rfl rfl, h0⟩
              · rw [World.cell?_alloc_lt _ _ _ (World.block_lt_of_cell? _ _ hx)]; exact hx
              · exact e5.world (fun _ _ _ _ hs => hs.alloc (fun _ _ => rfl)) shape_alloc
      | cons x0 b0 =>
        have hne : b ≠ [] := by rw [h6']; simp
        rw [← h6']
        clear h6'
        generalize hl0 : b.map cU = l0 at h6
        cases h6 with
        | osl0 _ => exact absurd (List.map_eq_nil_iff.1 hl0) hne
        | osl _ _ a n cap vs hn hcap hbd he hi hr =>
          subst hl0
          have hn' : n = b.length := by simpa using hn
          subst hn'
          rcases h7 _ _ _ rfl with h8 | ⟨a', h8, h9, ⟨ha1, ha2, m, h10, h11⟩, h12⟩
          · cases h8
          · cases h8
            obtain ⟨q, off, spot⟩ := a
            simp only at ha1 ha2 h9 h10
            subst ha1; subst ha2
            have hpos : b.length ≠ 0 := by simpa using hne
            have hcell : ∀ j x, b[j]? = some x → w.cell? ((⟨q, 0, none⟩ : Addr).add j) = some (.int .u8 x.toNat) := fun j x hx => by
              have e1 : (b.map cU)[j]? = some [.int .u8 x.toNat] := by rw [List.getElem?_map, hx]; rfl
              have e2 := hi j _ e1 0 _ rfl
              have e3 := hr j _ e1 0 _ rfl
              have e4 := hs.imm _ _ e2
              simp only [Nat.mul_one, Nat.add_zero] at e4
              rw [e4]
              generalize vs j 0 = y at e3
              cases e3; rfl
            have hblk : ∃ c' fr, w.heap[q]? = some (.cells c' 5 fr) ∧ (fr.1 = fr.2 ∨ fr.1 = 0) ∧ c'.size = m := by
              unfold rowSh at h10
              split at h10
              · rename_i c' ty' fr e
                split at h10
                · rename_i hfr; cases h10; exact ⟨c', fr, e, hfr, rfl⟩
                · cases h10
              · cases h10
            obtain ⟨c', fr, hq, hfr, hm⟩ := hblk
            have hcm : cap ≤ m := by simpa using h11
            refine (string_some k w q m b cap hne hcap (by omega) (by omega) (rowSh_shape h10) hc1 hcell).mono ?_
            rintro e w' ⟨rfl, rfl⟩
            have hqσ := (hs.ownσ _ q h9).1
            have hfz : ∀ k', k' ≠ q → (w.freeze ⟨q, 0, none⟩ b.length).heap[k']? = w.heap[k']? := fun k' hk' => heap_freeze w q _ k' hk'
            have hfq := freeze_at (n := b.length) hq hpos
            have hsize : (w.freeze ⟨q, 0, none⟩ b.length).heap.size = w.heap.size := by unfold World.freeze; split <;> simp
            have hcells : ∀ x, (w.freeze ⟨q, 0, none⟩ b.length).cell? x = w.cell? x := fun x => by
              unfold World.cell?
              by_cases hx : x.block = q
              · rw [hx, hfq, hq]
              · rw [hfz _ hx]
            have hdrw : w.drew.freeze ⟨q, 0, none⟩ b.length = (w.freeze ⟨q, 0, none⟩ b.length).drew := by
              unfold World.freeze; split <;> rfl
            rw [hdrw]
            refine ⟨g, _, rfl, hstr hbd, sto_drew (Sto.move hs (fun x v hx => by rw [hcells]; exact hx) (fun k' hk' => hfz k' (fun e => hqσ (by rw [← e]; exact hk'))) (by rw [hsize]; exact Nat.le_refl _) fun i j k' c2 ty' blk x e1 e2 e3 e4 e5 => ?_),
              hext _ (fun k' hk' hT => hfz k' (fun e => hT (.inr ⟨0, 1, by rw [e]; exact h9⟩))) (by show _ ≤ (w.freeze ⟨q, 0, none⟩ b.length).heap.size; rw [hsize]; exact Nat.le_refl _) (by show (w.freeze ⟨q, 0, none⟩ b.length).os = _; unfold World.freeze; split <;> rfl)
              (by show (w.freeze ⟨q, 0, none⟩ b.length).tape = _; unfold World.freeze; split <;> rfl) (by show (w.freeze ⟨q, 0, none⟩ b.length).output = _; unfold World.freeze; split <;> rfl), h0⟩
            cases i with
            | succ i => simp at e1
            | zero =>
              simp only [List.getElem?_cons_zero, Option.some.injEq] at e1
              subst e1
              rw [hk] at e2; cases e2
              rw [h1] at e3; cases e3
              cases j with
              | zero => simp only [List.getElem?_cons_zero, Option.some.injEq] at e4; subst e4; exact OwnsBy.of_not rfl
              | succ j =>
                cases j with
                | succ j => simp at e4
                | zero =>
                  simp only [List.getElem?_cons_succ, List.getElem?_cons_zero, Option.some.injEq] at e4
                  subst e4
                  rw [hcv]
                  intro base n cap' hv'
                  cases hv'
                  refine .inr ⟨_, rfl, h9, ⟨rfl, rfl, m, ?_, h11⟩, fun j hj1 hj2 => ?_⟩
                  · unfold rowSh
                    rw [hfq, ← hm]
                    simp only
                    split <;> simp
                  · obtain ⟨p1, p2, p3⟩ := h12 j hj1 hj2
                    refine ⟨p1, by rw [hcells]; exact p2, ?_⟩
                    have hb0 : ((⟨q, 0, none⟩ : Addr).add j).block = q := add_block _ _
                    have ho0 : ((⟨q, 0, none⟩ : Addr).add j).off = j := by rw [add_off]; exact Nat.zero_add j
                    unfold World.frozen? at p3 ⊢
                    rw [hb0, hq] at p3
                    rw [hb0, hfq]
                    rw [ho0] at p3 ⊢
                    simp only [Nat.mul_one] at hj1
                    obtain ⟨lo, hi'⟩ := fr
                    simp only [Bool.and_eq_false_iff, decide_eq_false_iff_not] at p3 hfr
                    by_cases hlo : lo = hi'
                    · rw [if_pos (by simp [hlo])]
                      simp; omega
                    · rw [if_neg (by simp [hlo])]
                      simp; omega
  | _ => rw [hv0'] at hv0; cases hv0
end Go.Proofs.Ythbjlmoaceaeeaa
set_option linter.unusedVariables false
set_option linter.unusedSimpArgs false
set_option maxRecDepth 100000
set_option maxHeartbeats 1000000
namespace Go.Proofs.Ythbjlmoaceaeeaa
open Go Go.Abs
theorem strings_IndexByte_ok (s1 : (List UInt8)) (c2 : UInt8) (r : Int) (h : M.strings_IndexByte s1 c2 = some r) : Pure Try.prog 99 [.str s1, .int .u8 (c2.toNat : Int)] (.int .i64 r) := by
  rw [M.strings_IndexByte] at h
  refine pure_of_body Try.func99 (by rfl) (by rfl) (by simp) (by simp) (by simp) ?_
  refine cut 8 0 [(0, .str s1), (1, .int .u8 (c2.toNat : Int))] [] ?_ ?_
  · refine st ?_
    simp
  obtain ⟨v3, q4, h⟩ := bs h
  refine cut 8 0 [(4, .int .i64 v3)] [] ?_ ?_
  · refine st ?_
    simp
    have r5 := stringslite_IndexByte_ok s1 c2 v3 q4
    try simp [] at r5
    refine callPure r5 (by simp) rfl ?_
    simp
  refine awp_ret ?_
  obtain rfl := Option.some.inj h
  simp
end Go.Proofs.Ythbjlmoaceaeeaa
set_option linter.unusedVariables false
set_option linter.unusedSimpArgs false
set_option maxRecDepth 100000
set_option maxHeartbeats 1000000
namespace Go.Proofs.Ythbjlmoaceaeeaa
open Go Go.Abs
theorem stringslite_HasPrefix_ok (s1 : (List UInt8)) (prefix2 : (List UInt8)) (r : Bool) (h : M.stringslite_HasPrefix s1 prefix2 = some r) : Pure Try.prog 133 [.str s1, .str prefix2] (.bool r) := by
  rw [M.stringslite_HasPrefix] at h
  refine pure_of_body Try.func133 (by rfl) (by rfl) (by simp) (by simp) (by simp) ?_
  refine cut 18 0 [(0, .str s1), (1, .str prefix2)] [] ?_ ?_
  · refine st ?_
    simp
  obtain ⟨b14, q15, h⟩ := bs h
  refine cut 18 0 [(4, .bool b14)] [] ?_ ?_
  · rcases sp q15 with ⟨g3, q15⟩ | ⟨g3, q15⟩
    · have c4 := leT g3
      refine factS 1 rfl fun f5 => ?_
      refine factS 0 rfl fun f6 => ?_
      obtain ⟨s7, q8, q15⟩ := bs q15
      obtain ⟨q9, q10⟩ := subC_ok q8
      try simp at q9
      try simp at q10
      obtain rfl := Option.some.inj q15
      refine st ?_
      simp [g3, q9, q10]
    · have c11 := leF g3
      refine factS 1 rfl fun f12 => ?_
      refine factS 0 rfl fun f13 => ?_
      obtain rfl := Option.some.inj q15
      refine st ?_
      simp [g3]
  refine awp_ret ?_
  obtain rfl := Option.some.inj h
  simp
end Go.Proofs.Ythbjlmoaceaeeaa
set_option linter.unusedVariables false
set_option linter.unusedSimpArgs false
set_option maxRecDepth 100000
set_option maxHeartbeats 1000000
namespace Go.Proofs.Ythbjlmoaceaeeaa
open Go Go.Abs
theorem strings_HasPrefix_ok (s1 : (List UInt8)) (prefix2 : (List UInt8)) (r : Bool) (h : M.strings_HasPrefix s1 prefix2 = some r) : Pure Try.prog 100 [.str s1, .str prefix2] (.bool r) := by
  rw [M.strings_HasPrefix] at h
  refine pure_of_body Try.func100 (by rfl) (by rfl) (by simp) (by simp) (by simp) ?_
  refine cut 8 0 [(0, .str s1), (1, .str prefix2)] [] ?_ ?_
  · refine st ?_
    simp
  obtain ⟨v3, q4, h⟩ := bs h
  refine cut 8 0 [(4, .bool v3)] [] ?_ ?_
  · refine st ?_
    simp
    have r5 := stringslite_HasPrefix_ok s1 prefix2 v3 q4
    try simp [] at r5
    refine callPure r5 (by simp) rfl ?_
    simp
  refine awp_ret ?_
  obtain rfl := Option.some.inj h
  simp
end Go.Proofs.Ythbjlmoaceaeeaa
set_option linter.unusedVariables false
set_option linter.unusedSimpArgs false
set_option maxRecDepth 100000
set_option maxHeartbeats 1000000
namespace Go.Proofs.Ythbjlmoaceaeeaa
open Go Go.Abs
theorem lexer_scanner_skip_ok (fuel : Nat) (w1 : Lexer.scanner) (r : Int × Lexer.scanner) (h : M.lexer_scanner_skip fuel w1 = some r) : Raw Try.prog 61 [.mptr 0 0] [[.str w1.s, .int .i64 w1.at_]] (.int .i64 r.1) [[.str r.2.s, .int .i64 r.2.at_]] := by
  rw [M.lexer_scanner_skip] at h
  refine raw_of_bodyB Try.func61 (by rfl) (by rfl) (by simp) (by simp) ?_
  refine cut 105 1 [(0, .mptr 0 0)] [[.str w1.s, .int .i64 w1.at_]] ?_ ?_
  · refine st ?_
    simp
  refine awp_seq ?_
  refine awp_block ?_
  obtain ⟨o4, l5, h⟩ := bs h
  refine awp_inv (fun p : Nat × Int => mkS 105 1 [(0, .mptr 0 0)] [[.str w1.s, .int .i64 p.2]]) (fun p => M.lexer_scanner_skip_l1 fuel w1 p.1 p.2 = some o4) (fun p => p.1) (fuel, w1.at_) l5 (le_mkS (by simp)) ?_
  rintro ⟨k6, at2⟩ l5
  dsimp only at l5 ⊢
  cases k6 with
  | zero =>
    rw [M.lexer_scanner_skip_l1] at l5; cases l5
  | succ k7 =>
    rw [M.lexer_scanner_skip_l1] at l5
    refine awp_seq ?_
    refine cut 105 1 [(0, .mptr 0 0), (15, .bool (ltI at2 (w1.s.length : Int)))] [[.str w1.s, .int .i64 at2]] ?_ ?_
    · refine awp_region_draw [] mixed (n := 105) rfl (by decide) ?_
      simp
    rcases sp l5 with ⟨g8, l5⟩ | ⟨g8, l5⟩
    · have c9 := ltT g8
      refine condT rfl g8 ?_
      refine factCS 0 0 rfl rfl fun f10 => ?_
      refine awp_skip ?_
      refine seq_eq ?_
      refine awp_block ?_
      obtain ⟨s11, q12, l5⟩ := bs l5
      obtain ⟨q13, q14⟩ := subC_ok q12
      try simp at q13
      try simp at q14
      refine cut 105 1 [(0, .mptr 0 0), (3, .str s11)] [[.str w1.s, .int .i64 at2]] ?_ ?_
      · refine awp_region_draw [] mixed (n := 105) rfl (by decide) ?_
        simp [q13, q14]
      refine awp_block ?_
      obtain ⟨c15, q16, l5⟩ := bs l5
      obtain ⟨v17, q18, l5⟩ := bs l5
      refine cut 105 1 [(0, .mptr 0 0), (3, .str s11), (25, .bool (leI 0 v17))] [[.str w1.s, .int .i64 at2]] ?_ ?_
      · refine st ?_
        simp [q16]
        have r90 := strings_IndexByte_ok [32, 9, 10] c15 v17 q18
        try simp [q16] at r90
        refine callPure r90 (by simp) rfl ?_
        simp [q16]
      rcases sp l5 with ⟨g19, l5⟩ | ⟨g19, l5⟩
      · have c20 := leT g19
        refine condT rfl g19 ?_
        obtain ⟨n21, q22, l5⟩ := bs l5
        obtain ⟨q23, q24⟩ := chk_ok q22
        try simp at q23
        try simp at q24
        have c25 := q23; simp only [Rng, inR] at c25
        refine last 105 1 [(0, .mptr 0 0)] [[.str w1.s, .int .i64 n21]] ?_ fun zz hs => ?_
        · refine st ?_
          simp [q23, q24]
        refine blk_n ?_
        refine blk_n ?_
        exact ⟨(k7, n21), hs, l5, by simp⟩
      · have c26 := leF g19
        refine condF rfl g19 ?_
        obtain ⟨v27, q28, l5⟩ := bs l5
        refine cut 105 1 [(0, .mptr 0 0), (37, .bool v27)] [[.str w1.s, .int .i64 at2]] ?_ ?_
        · refine st ?_
          simp
          have r89 := strings_HasPrefix_ok s11 [40, 42] v27 q28
          try simp [] at r89
          refine callPure r89 (by simp) rfl ?_
          simp
        rcases sp l5 with ⟨g29, l5⟩ | ⟨g29, l5⟩
        · refine condT rfl g29 ?_
          refine cut 105 1 [(0, .mptr 0 0), (4, .int .i64 at2), (5, .int .i64 0)] [[.str w1.s, .int .i64 at2]] ?_ ?_
          · refine st ?_
            simp
          refine awp_block ?_
          obtain ⟨o33, l34, l5⟩ := bs l5
          refine awp_inv (fun p : Nat × Int × Int => mkS 105 1 [(0, .mptr 0 0), (4, .int .i64 at2), (5, .int .i64 p.2.2)] [[.str w1.s, .int .i64 p.2.1]]) (fun p => M.lexer_scanner_skip_l2 w1 at2 p.1 p.2.1 p.2.2 = some o33) (fun p => p.1) (fuel, at2, 0) l34 (le_mkS (by simp)) ?_
          rintro ⟨k35, at30, i31⟩ l34
          dsimp only at l34 ⊢
          cases k35 with
          | zero =>
            rw [M.lexer_scanner_skip_l2] at l34; cases l34
          | succ k36 =>
            rw [M.lexer_scanner_skip_l2] at l34
            refine awp_block ?_
            refine awp_seq ?_
            refine awp_block ?_
            refine cut 105 1 [(0, .mptr 0 0), (4, .int .i64 at2), (5, .int .i64 i31), (51, .bool (leI (w1.s.length : Int) at30))] [[.str w1.s, .int .i64 at30]] ?_ ?_
            · refine awp_region_draw [] mixed (n := 105) rfl (by decide) ?_
              simp
            rcases sp l34 with ⟨g37, l34⟩ | ⟨g37, l34⟩
            · have c38 := leT g37
              refine condT rfl g37 ?_
              refine cut 105 1 [(2, .int .i64 at2)] [[.str w1.s, .int .i64 at30]] ?_ ?_
              · refine st ?_
                simp
              refine awp_ret ?_
              refine ret_blk ?_
              refine ret_seq ?_
              refine ret_blk ?_
              replace l5 := retL l34 l5
              refine ret_seq ?_
              refine ret_blk ?_
              refine ret_blk ?_
              refine ret_blk ?_
              replace h := retL l5 h
              refine ret_seq ?_
              refine ret_blk ?_
              refine ret_seq ?_
              obtain rfl := Option.some.inj h
              simp
            · have c39 := leF g37
              refine condF rfl g37 ?_
              obtain ⟨s40, q41, l34⟩ := bs l34
              obtain ⟨q42, q43⟩ := subC_ok q41
              try simp at q42
              try simp at q43
              obtain ⟨v44, q45, l34⟩ := bs l34
              refine cut 105 1 [(0, .mptr 0 0), (4, .int .i64 at2), (5, .int .i64 i31), (63, .bool v44)] [[.str w1.s, .int .i64 at30]] ?_ ?_
              · refine awp_region_draw [] mixed (n := 105) rfl (by decide) ?_
                simp [q42, q43]
                have r88 := strings_HasPrefix_ok s40 [40, 42] v44 q45
                try simp [q42, q43] at r88
                refine callD r88 (by simp) rfl ?_
                simp [q42, q43]
              rcases sp l34 with ⟨g46, l34⟩ | ⟨g46, l34⟩
              · refine condT rfl g46 ?_
                obtain ⟨n47, q48, l34⟩ := bs l34
                obtain ⟨q49, q50⟩ := chk_ok q48
                try simp at q49
                try simp at q50
                have c51 := q49; simp only [Rng, inR] at c51
                refine cut 105 1 [(0, .mptr 0 0), (4, .int .i64 at2), (5, .int .i64 n47)] [[.str w1.s, .int .i64 at30]] ?_ ?_
                · refine st ?_
                  simp [q49, q50]
                obtain ⟨n52, q53, l34⟩ := bs l34
                obtain ⟨q54, q55⟩ := chk_ok q53
                try simp at q54
                try simp at q55
                have c56 := q54; simp only [Rng, inR] at c56
                refine last 105 1 [(0, .mptr 0 0), (4, .int .i64 at2), (5, .int .i64 n47)] [[.str w1.s, .int .i64 n52]] ?_ fun zz hs => ?_
                · refine st ?_
                  simp [q54, q55]
                refine blk_n ?_
                refine seq_le ?_ hs
                refine cut 105 1 [(0, .mptr 0 0), (4, .int .i64 at2), (5, .int .i64 n47), (104, .bool (eqI n47 0))] [[.str w1.s, .int .i64 n52]] ?_ ?_
                · refine st ?_
                  simp
                rcases sp l34 with ⟨g57, l34⟩ | ⟨g57, l34⟩
                · have c58 := eqT g57
                  refine condT rfl g57 ?_
                  refine awp_exit ?_
                  refine exit_blk_ne (by decide) ?_
                  rcases o33 with o33 | o32
                  · cases l34
                  have q59 := Sum.inr.inj (Option.some.inj l34)
                  replace l5 := elimR l5
                  have q59 := q59.symm
                  refine exit_seq ?_
                  refine exit_blk ?_
                  refine blk_n ?_
                  refine blk_n ?_
                  exact ⟨(k7, o32), le_mkS (by simp [q59]), l5, by simp⟩
                · have c60 := eqF g57
                  refine condF rfl g57 ?_
                  refine awp_skip ?_
                  refine blk_n ?_
                  exact ⟨(k36, n52, n47), le_mkS (by simp []), l34, by simp⟩
              · refine condF rfl g46 ?_
                obtain ⟨v61, q62, l34⟩ := bs l34
                refine cut 105 1 [(0, .mptr 0 0), (4, .int .i64 at2), (5, .int .i64 i31), (83, .bool v61)] [[.str w1.s, .int .i64 at30]] ?_ ?_
                · refine awp_region_draw [] mixed (n := 105) rfl (by decide) ?_
                  simp [q42, q43]
                  have r87 := strings_HasPrefix_ok s40 [42, 41] v61 q62
                  try simp [q42, q43] at r87
                  refine callD r87 (by simp) rfl ?_
                  simp [q42, q43]
                rcases sp l34 with ⟨g63, l34⟩ | ⟨g63, l34⟩
                · refine condT rfl g63 ?_
                  obtain ⟨n64, q65, l34⟩ := bs l34
                  obtain ⟨q66, q67⟩ := chk_ok q65
                  try simp at q66
                  try simp at q67
                  have c68 := q66; simp only [Rng, inR] at c68
                  refine cut 105 1 [(0, .mptr 0 0), (4, .int .i64 at2), (5, .int .i64 n64)] [[.str w1.s, .int .i64 at30]] ?_ ?_
                  · refine st ?_
                    simp [q66, q67]
                  obtain ⟨n69, q70, l34⟩ := bs l34
                  obtain ⟨q71, q72⟩ := chk_ok q70
                  try simp at q71
                  try simp at q72
                  have c73 := q71; simp only [Rng, inR] at c73
                  refine last 105 1 [(0, .mptr 0 0), (4, .int .i64 at2), (5, .int .i64 n64)] [[.str w1.s, .int .i64 n69]] ?_ fun zz hs => ?_
                  · refine st ?_
                    simp [q71, q72]
                  refine blk_n ?_
                  refine seq_le ?_ hs
                  refine cut 105 1 [(0, .mptr 0 0), (4, .int .i64 at2), (5, .int .i64 n64), (104, .bool (eqI n64 0))] [[.str w1.s, .int .i64 n69]] ?_ ?_
                  · refine st ?_
                    simp
                  rcases sp l34 with ⟨g74, l34⟩ | ⟨g74, l34⟩
                  · have c75 := eqT g74
                    refine condT rfl g74 ?_
                    refine awp_exit ?_
                    refine exit_blk_ne (by decide) ?_
                    rcases o33 with o33 | o32
                    · cases l34
                    have q76 := Sum.inr.inj (Option.some.inj l34)
                    replace l5 := elimR l5
                    have q76 := q76.symm
                    refine exit_seq ?_
                    refine exit_blk ?_
                    refine blk_n ?_
                    refine blk_n ?_
                    exact ⟨(k7, o32), le_mkS (by simp [q76]), l5, by simp⟩
                  · have c77 := eqF g74
                    refine condF rfl g74 ?_
                    refine awp_skip ?_
                    refine blk_n ?_
                    exact ⟨(k36, n69, n64), le_mkS (by simp []), l34, by simp⟩
                · refine condF rfl g63 ?_
                  obtain ⟨n78, q79, l34⟩ := bs l34
                  obtain ⟨q80, q81⟩ := chk_ok q79
                  try simp at q80
                  try simp at q81
                  have c82 := q80; simp only [Rng, inR] at c82
                  refine last 105 1 [(0, .mptr 0 0), (4, .int .i64 at2), (5, .int .i64 i31)] [[.str w1.s, .int .i64 n78]] ?_ fun zz hs => ?_
                  · refine st ?_
                    simp [q80, q81]
                  refine blk_n ?_
                  refine seq_le ?_ hs
                  refine cut 105 1 [(0, .mptr 0 0), (4, .int .i64 at2), (5, .int .i64 i31), (104, .bool (eqI i31 0))] [[.str w1.s, .int .i64 n78]] ?_ ?_
                  · refine st ?_
                    simp
                  rcases sp l34 with ⟨g83, l34⟩ | ⟨g83, l34⟩
                  · have c84 := eqT g83
                    refine condT rfl g83 ?_
                    refine awp_exit ?_
                    refine exit_blk_ne (by decide) ?_
                    rcases o33 with o33 | o32
                    · cases l34
                    have q85 := Sum.inr.inj (Option.some.inj l34)
                    replace l5 := elimR l5
                    have q85 := q85.symm
                    refine exit_seq ?_
                    refine exit_blk ?_
                    refine blk_n ?_
                    refine blk_n ?_
                    exact ⟨(k7, o32), le_mkS (by simp [q85]), l5, by simp⟩
                  · have c86 := eqF g83
                    refine condF rfl g83 ?_
                    refine awp_skip ?_
                    refine blk_n ?_
                    exact ⟨(k36, n78, i31), le_mkS (by simp []), l34, by simp⟩
        · refine condF rfl g29 ?_
          refine cut 105 1 [(2, .int .i64 (-1))] [[.str w1.s, .int .i64 at2]] ?_ ?_
          · refine st ?_
            simp
          refine awp_ret ?_
          refine ret_blk ?_
          refine ret_blk ?_
          replace h := retL l5 h
          refine ret_seq ?_
          refine ret_blk ?_
          refine ret_seq ?_
          obtain rfl := Option.some.inj h
          simp
    · have c91 := ltF g8
      refine condF rfl g8 ?_
      refine factCS 0 0 rfl rfl fun f92 => ?_
      refine awp_exit ?_
      refine exit_seq ?_
      rcases o4 with o4 | o3
      · cases l5
      have q93 := Sum.inr.inj (Option.some.inj l5)
      replace h := elimR h
      have q93 := q93.symm
      refine exit_seq ?_
      refine exit_blk ?_
      refine seq_le (t := mkS 105 1 [] [[.str w1.s, .int .i64 o3]]) ?_ (le_mkS (by simp [q93]))
      refine cut 105 1 [(2, .int .i64 (-1))] [[.str w1.s, .int .i64 o3]] ?_ ?_
      · refine st ?_
        simp
      refine awp_ret ?_
      obtain rfl := Option.some.inj h
      simp
end Go.Proofs.Ythbjlmoaceaeeaa
set_option linter.unusedVariables false
set_option linter.unusedSimpArgs false
set_option maxRecDepth 100000
set_option maxHeartbeats 1000000
namespace Go.Proofs.Ythbjlmoaceaeeaa
open Go Go.Abs
theorem bytealg_LastIndexByteString_ok (fuel : Nat) (s1 : (List UInt8)) (c2 : UInt8) (r : Int) (h : M.bytealg_LastIndexByteString fuel s1 c2 = some r) : Pure Try.prog 136 [.str s1, .int .u8 (c2.toNat : Int)] (.int .i64 r) := by
  rw [M.bytealg_LastIndexByteString] at h
  refine pure_of_body Try.func136 (by rfl) (by rfl) (by simp) (by simp) (by simp) ?_
  refine cut 19 0 [(0, .str s1), (1, .int .u8 (c2.toNat : Int))] [] ?_ ?_
  · refine st ?_
    simp
  refine awp_seq ?_
  obtain ⟨n3, q4, h⟩ := bs h
  obtain ⟨q5, q6⟩ := chk_ok q4
  try simp at q5
  try simp at q6
  have c7 := q5; simp only [Rng, inR] at c7
  refine cut 19 0 [(0, .str s1), (1, .int .u8 (c2.toNat : Int)), (5, .int .i64 n3)] [] ?_ ?_
  · refine st ?_
    simp [q5, q6]
  refine awp_block ?_
  obtain ⟨o10, l11, h⟩ := bs h
  refine awp_inv (fun p : Nat × Int => mkS 19 0 [(0, .str s1), (1, .int .u8 (c2.toNat : Int)), (5, .int .i64 p.2)] []) (fun p => M.bytealg_LastIndexByteString_l1 s1 c2 p.1 p.2 = some o10 ∧ (-1) ≤ p.2 ∧ p.2 ≤ 9223372036854775807) (fun p => p.1) (fuel, n3) ⟨l11, by (try dsimp only); omega, by (try dsimp only); omega⟩ (le_mkS (by simp)) ?_
  rintro ⟨k14, i8⟩ ⟨l11, c12, c13⟩
  dsimp only at l11 c12 c13 ⊢
  cases k14 with
  | zero =>
    rw [M.bytealg_LastIndexByteString_l1] at l11; cases l11
  | succ k15 =>
    rw [M.bytealg_LastIndexByteString_l1] at l11
    refine awp_seq ?_
    refine cut 19 0 [(0, .str s1), (1, .int .u8 (c2.toNat : Int)), (5, .int .i64 i8), (10, .bool (leI 0 i8))] [] ?_ ?_
    · refine st ?_
      simp
    rcases sp l11 with ⟨g16, l11⟩ | ⟨g16, l11⟩
    · have c17 := leT g16
      refine condT rfl g16 ?_
      refine awp_skip ?_
      refine seq_eq ?_
      refine awp_seq ?_
      refine awp_block ?_
      obtain ⟨c18, q19, l11⟩ := bs l11
      obtain ⟨q20, q21⟩ := idx_ok q19
      refine cut 19 0 [(0, .str s1), (1, .int .u8 (c2.toNat : Int)), (5, .int .i64 i8), (17, .bool (eqI (c18.toNat : Int) (c2.toNat : Int)))] [] ?_ ?_
      · refine st ?_
        simp [q20, q21]
      rcases sp l11 with ⟨g22, l11⟩ | ⟨g22, l11⟩
      · have c23 := eqT g22
        refine condT rfl g22 ?_
        refine cut 19 0 [(4, .int .i64 i8)] [] ?_ ?_
        · refine st ?_
          simp
        refine awp_ret ?_
        refine ret_blk ?_
        refine ret_seq ?_
        replace h := retL l11 h
        refine ret_seq ?_
        refine ret_blk ?_
        refine ret_seq ?_
        obtain rfl := Option.some.inj h
        simp
      · have c24 := eqF g22
        refine condF rfl g22 ?_
        refine awp_skip ?_
        refine blk_n ?_
        refine seq_eq ?_
        have q25 : Rng .i64 (i8 - 1) := by simp only [Rng, inR]; omega
        try simp at q25
        refine last 19 0 [(0, .str s1), (1, .int .u8 (c2.toNat : Int)), (5, .int .i64 (i8 - 1))] [] ?_ fun zz hs => ?_
        · refine st ?_
          simp [q25]
        exact ⟨(k15, i8 - 1), hs, ⟨l11, by (try dsimp only); omega, by (try dsimp only); omega⟩, by simp⟩
    · have c26 := leF g16
      refine condF rfl g16 ?_
      refine awp_exit ?_
      refine exit_seq ?_
      rcases o10 with o10 | o9
      · cases l11
      have q27 := Sum.inr.inj (Option.some.inj l11)
      replace h := elimR h
      refine exit_seq ?_
      refine exit_blk ?_
      refine seq_le (t := mkS 19 0 [] []) ?_ (le_mkS (by simp []))
      refine cut 19 0 [(4, .int .i64 (-1))] [] ?_ ?_
      · refine st ?_
        simp
      refine awp_ret ?_
      obtain rfl := Option.some.inj h
      simp
end Go.Proofs.Ythbjlmoaceaeeaa
set_option linter.unusedVariables false
set_option linter.unusedSimpArgs false
set_option maxRecDepth 100000
set_option maxHeartbeats 1000000
namespace Go.Proofs.Ythbjlmoaceaeeaa
open Go Go.Abs
theorem strings_LastIndexByte_ok (fuel : Nat) (s1 : (List UInt8)) (c2 : UInt8) (r : Int) (h : M.strings_LastIndexByte fuel s1 c2 = some r) : Pure Try.prog 102 [.str s1, .int .u8 (c2.toNat : Int)] (.int .i64 r) := by
  rw [M.strings_LastIndexByte] at h
  refine pure_of_body Try.func102 (by rfl) (by rfl) (by simp) (by simp) (by simp) ?_
  refine cut 8 0 [(0, .str s1), (1, .int .u8 (c2.toNat : Int))] [] ?_ ?_
  · refine st ?_
    simp
  obtain ⟨v3, q4, h⟩ := bs h
  refine cut 8 0 [(4, .int .i64 v3)] [] ?_ ?_
  · refine st ?_
    simp
    have r5 := bytealg_LastIndexByteString_ok fuel s1 c2 v3 q4
    try simp [] at r5
    refine callPure r5 (by simp) rfl ?_
    simp
  refine awp_ret ?_
  obtain rfl := Option.some.inj h
  simp
end Go.Proofs.Ythbjlmoaceaeeaa
set_option linter.unusedVariables false
set_option linter.unusedSimpArgs false
set_option maxRecDepth 100000
set_option maxHeartbeats 1000000
namespace Go.Proofs.Ythbjlmoaceaeeaa
open Go Go.Abs
theorem lexer_place_ok (fuel : Nat) (s1 : (List UInt8)) (at2 : Int) (r : Api.Pos) (h : M.lexer_place fuel s1 at2 = some r) : Pure Try.prog 62 [.str s1, .int .i64 at2] (.agg [.int .i64 r.Line, .int .i64 r.Column]) := by
  rw [M.lexer_place] at h
  refine pure_of_body Try.func62 (by rfl) (by rfl) (by simp) (by simp) (by simp) ?_
  refine cut 17 0 [(0, .str s1), (1, .int .i64 at2), (4, .mptr 0 0)] [[.int .i64 0, .int .i64 0]] ?_ ?_
  · refine st ?_
    simp
  obtain ⟨s3, q4, h⟩ := bs h
  obtain ⟨q5, q6⟩ := subC_ok q4
  try simp at q5
  try simp at q6
  refine cut 17 0 [(1, .int .i64 at2), (4, .mptr 0 0), (5, .str s3)] [[.int .i64 0, .int .i64 0]] ?_ ?_
  · refine st ?_
    simp [q5, q6]
  obtain ⟨v7, q8, h⟩ := bs h
  obtain ⟨n9, q10, h⟩ := bs h
  obtain ⟨q11, q12⟩ := chk_ok q10
  try simp at q11
  try simp at q12
  have c13 := q11; simp only [Rng, inR] at c13
  obtain ⟨v14, q15, h⟩ := bs h
  obtain ⟨n16, q17, h⟩ := bs h
  obtain ⟨q18, q19⟩ := chk_ok q17
  try simp at q18
  try simp at q19
  have c20 := q18; simp only [Rng, inR] at c20
  refine cut 17 0 [(4, .mptr 0 0)] [[.int .i64 n9, .int .i64 n16]] ?_ ?_
  · refine st ?_
    simp [q11, q12, q18, q19]
    have r21 := strings_Count_ok s3 [10] v7 q8
    try simp [q11, q12, q18, q19] at r21
    refine callPure r21 (by simp) rfl ?_
    simp [q11, q12, q18, q19]
    have r22 := strings_LastIndexByte_ok fuel s3 (10 : UInt8) v14 q15
    try simp [q11, q12, q18, q19] at r22
    refine callPure r22 (by simp) rfl ?_
    simp [q11, q12, q18, q19]
  refine awp_ret ?_
  obtain rfl := Option.some.inj h
  simp
end Go.Proofs.Ythbjlmoaceaeeaa
set_option linter.unusedVariables false
set_option linter.unusedSimpArgs false
set_option maxRecDepth 100000
set_option maxHeartbeats 1000000
namespace Go.Proofs.Ythbjlmoaceaeeaa
open Go Go.Abs
theorem lexer_small_ok (c1 : UInt8) (r : Bool) (h : M.lexer_small c1 = some r) : Pure Try.prog 105 [.int .u8 (c1.toNat : Int)] (.bool r) := by
  rw [M.lexer_small] at h
  refine pure_of_body Try.func105 (by rfl) (by rfl) (by simp) (by simp) (by simp) ?_
  refine cut 9 0 [(0, .int .u8 (c1.toNat : Int))] [] ?_ ?_
  · refine st ?_
    simp
  refine cut 9 0 [(2, .bool ((leI 97 (c1.toNat : Int)) && (leI (c1.toNat : Int) 122)))] [] ?_ ?_
  · rcases tf (leI 97 (c1.toNat : Int)) with g2 | g2
    · have c3 := leT g2
      refine st ?_
      simp [g2]
    · have c4 := leF g2
      refine st ?_
      simp [g2]
  refine awp_ret ?_
  obtain rfl := Option.some.inj h
  simp
end Go.Proofs.Ythbjlmoaceaeeaa
set_option linter.unusedVariables false
set_option linter.unusedSimpArgs false
set_option maxRecDepth 100000
set_option maxHeartbeats 1000000
namespace Go.Proofs.Ythbjlmoaceaeeaa
open Go Go.Abs
theorem lexer_capital_ok (c1 : UInt8) (r : Bool) (h : M.lexer_capital c1 = some r) : Pure Try.prog 106 [.int .u8 (c1.toNat : Int)] (.bool r) := by
  rw [M.lexer_capital] at h
  refine pure_of_body Try.func106 (by rfl) (by rfl) (by simp) (by simp) (by simp) ?_
  refine cut 9 0 [(0, .int .u8 (c1.toNat : Int))] [] ?_ ?_
  · refine st ?_
    simp
  refine cut 9 0 [(2, .bool ((leI 65 (c1.toNat : Int)) && (leI (c1.toNat : Int) 90)))] [] ?_ ?_
  · rcases tf (leI 65 (c1.toNat : Int)) with g2 | g2
    · have c3 := leT g2
      refine st ?_
      simp [g2]
    · have c4 := leF g2
      refine st ?_
      simp [g2]
  refine awp_ret ?_
  obtain rfl := Option.some.inj h
  simp
end Go.Proofs.Ythbjlmoaceaeeaa
set_option linter.unusedVariables false
set_option linter.unusedSimpArgs false
set_option maxRecDepth 100000
set_option maxHeartbeats 1000000
namespace Go.Proofs.Ythbjlmoaceaeeaa
open Go Go.Abs
theorem lexer_digit_ok (c1 : UInt8) (r : Bool) (h : M.lexer_digit c1 = some r) : Pure Try.prog 110 [.int .u8 (c1.toNat : Int)] (.bool r) := by
  rw [M.lexer_digit] at h
  refine pure_of_body Try.func110 (by rfl) (by rfl) (by simp) (by simp) (by simp) ?_
  refine cut 9 0 [(0, .int .u8 (c1.toNat : Int))] [] ?_ ?_
  · refine st ?_
    simp
  refine cut 9 0 [(2, .bool ((leI 48 (c1.toNat : Int)) && (leI (c1.toNat : Int) 57)))] [] ?_ ?_
  · rcases tf (leI 48 (c1.toNat : Int)) with g2 | g2
    · have c3 := leT g2
      refine st ?_
      simp [g2]
    · have c4 := leF g2
      refine st ?_
      simp [g2]
  refine awp_ret ?_
  obtain rfl := Option.some.inj h
  simp
end Go.Proofs.Ythbjlmoaceaeeaa
set_option linter.unusedVariables false
set_option linter.unusedSimpArgs false
set_option maxRecDepth 100000
set_option maxHeartbeats 1000000
namespace Go.Proofs.Ythbjlmoaceaeeaa
open Go Go.Abs
theorem lexer_inner_ok (c1 : UInt8) (r : Bool) (h : M.lexer_inner c1 = some r) : Pure Try.prog 108 [.int .u8 (c1.toNat : Int)] (.bool r) := by
  rw [M.lexer_inner] at h
  refine pure_of_body Try.func108 (by rfl) (by rfl) (by simp) (by simp) (by simp) ?_
  refine cut 17 0 [(0, .int .u8 (c1.toNat : Int))] [] ?_ ?_
  · refine st ?_
    simp
  obtain ⟨b11, q12, h⟩ := bs h
  refine cut 17 0 [(2, .bool b11)] [] ?_ ?_
  · obtain ⟨v2, q3, q12⟩ := bs q12
    rcases sp q12 with ⟨g4, q12⟩ | ⟨g4, q12⟩
    · obtain rfl := Option.some.inj q12
      refine st ?_
      simp [g4]
      have r13 := lexer_small_ok c1 v2 q3
      try simp [g4] at r13
      refine callPure r13 (by simp) rfl ?_
      simp [g4]
    · obtain ⟨v5, q6, q12⟩ := bs q12
      rcases sp q12 with ⟨g7, q12⟩ | ⟨g7, q12⟩
      · obtain rfl := Option.some.inj q12
        refine st ?_
        simp [g4, g7]
        have r14 := lexer_small_ok c1 v2 q3
        try simp [g4, g7] at r14
        refine callPure r14 (by simp) rfl ?_
        simp [g4, g7]
        have r15 := lexer_capital_ok c1 v5 q6
        try simp [g4, g7] at r15
        refine callPure r15 (by simp) rfl ?_
        simp [g4, g7]
      · obtain ⟨v8, q9, q12⟩ := bs q12
        rcases sp q12 with ⟨g10, q12⟩ | ⟨g10, q12⟩
        · obtain rfl := Option.some.inj q12
          refine st ?_
          simp [g4, g7, g10]
          have r16 := lexer_small_ok c1 v2 q3
          try simp [g4, g7, g10] at r16
          refine callPure r16 (by simp) rfl ?_
          simp [g4, g7, g10]
          have r17 := lexer_capital_ok c1 v5 q6
          try simp [g4, g7, g10] at r17
          refine callPure r17 (by simp) rfl ?_
          simp [g4, g7, g10]
          have r18 := lexer_digit_ok c1 v8 q9
          try simp [g4, g7, g10] at r18
          refine callPure r18 (by simp) rfl ?_
          simp [g4, g7, g10]
        · obtain rfl := Option.some.inj q12
          refine st ?_
          simp [g4, g7, g10]
          have r19 := lexer_small_ok c1 v2 q3
          try simp [g4, g7, g10] at r19
          refine callPure r19 (by simp) rfl ?_
          simp [g4, g7, g10]
          have r20 := lexer_capital_ok c1 v5 q6
          try simp [g4, g7, g10] at r20
          refine callPure r20 (by simp) rfl ?_
          simp [g4, g7, g10]
          have r21 := lexer_digit_ok c1 v8 q9
          try simp [g4, g7, g10] at r21
          refine callPure r21 (by simp) rfl ?_
          simp [g4, g7, g10]
  refine awp_ret ?_
  obtain rfl := Option.some.inj h
  simp
end Go.Proofs.Ythbjlmoaceaeeaa
set_option linter.unusedVariables false
set_option linter.unusedSimpArgs false
set_option maxRecDepth 100000
set_option maxHeartbeats 1000000
namespace Go.Proofs.Ythbjlmoaceaeeaa
open Go Go.Abs
theorem lexer_length_inner_ok (fuel : Nat) (s1 : (List UInt8)) (r : Int) (h : M.lexer_length_inner fuel s1 = some r) : Pure Try.prog 107 [.str s1, .fn (.func 108) [] []] (.int .i64 r) := by
  rw [M.lexer_length_inner] at h
  refine pure_of_body Try.func107 (by rfl) (by rfl) (by simp) (by simp) (by simp) ?_
  refine cut 20 0 [(0, .str s1), (1, .fn (.func 108) [] [])] [] ?_ ?_
  · refine st ?_
    simp
  refine cut 20 0 [(0, .str s1), (1, .fn (.func 108) [] []), (5, .int .i64 0)] [] ?_ ?_
  · refine st ?_
    simp
  refine awp_seq ?_
  refine awp_block ?_
  obtain ⟨o3, l4, h⟩ := bs h
  refine awp_inv (fun p : Nat × Int => mkS 20 0 [(0, .str s1), (1, .fn (.func 108) [] []), (5, .int .i64 p.2)] []) (fun p => M.lexer_length_inner_l1 s1 p.1 p.2 = some o3 ∧ 0 ≤ p.2) (fun p => p.1) (fuel, 0) ⟨l4, by (try dsimp only); omega⟩ (le_mkS (by simp)) ?_
  rintro ⟨k6, n2⟩ ⟨l4, c5⟩
  dsimp only at l4 c5 ⊢
  cases k6 with
  | zero =>
    rw [M.lexer_length_inner_l1] at l4; cases l4
  | succ k7 =>
    rw [M.lexer_length_inner_l1] at l4
    refine awp_seq ?_
    obtain ⟨b19, q20, l4⟩ := bs l4
    refine cut 20 0 [(0, .str s1), (1, .fn (.func 108) [] []), (5, .int .i64 n2), (16, .bool b19)] [] ?_ ?_
    · rcases sp q20 with ⟨g8, q20⟩ | ⟨g8, q20⟩
      · have c9 := ltT g8
        refine factS 0 rfl fun f10 => ?_
        obtain ⟨c11, q12, q20⟩ := bs q20
        obtain ⟨q13, q14⟩ := idx_ok q12
        obtain ⟨v15, q16, q20⟩ := bs q20
        obtain rfl := Option.some.inj q20
        refine st ?_
        simp [g8, q13, q14]
        have r28 := lexer_inner_ok c11 v15 q16
        try simp [g8, q13, q14] at r28
        refine callPure r28 (by simp) rfl ?_
        simp [g8, q13, q14]
      · have c17 := ltF g8
        refine factS 0 rfl fun f18 => ?_
        obtain rfl := Option.some.inj q20
        refine st ?_
        simp [g8]
    rcases sp l4 with ⟨g21, l4⟩ | ⟨g21, l4⟩
    · refine condT rfl g21 ?_
      refine awp_skip ?_
      refine seq_eq ?_
      refine awp_block ?_
      obtain ⟨n22, q23, l4⟩ := bs l4
      obtain ⟨q24, q25⟩ := chk_ok q23
      try simp at q24
      try simp at q25
      have c26 := q24; simp only [Rng, inR] at c26
      refine last 20 0 [(0, .str s1), (1, .fn (.func 108) [] []), (5, .int .i64 n22)] [] ?_ fun zz hs => ?_
      · refine st ?_
        simp [q24, q25]
      refine blk_n ?_
      exact ⟨(k7, n22), hs, ⟨l4, by (try dsimp only); omega⟩, by simp⟩
    · refine condF rfl g21 ?_
      refine awp_exit ?_
      refine exit_seq ?_
      have q27 := Option.some.inj l4
      have q27 := q27.symm
      refine exit_seq ?_
      refine exit_blk ?_
      refine seq_le (t := mkS 20 0 [(5, .int .i64 o3)] []) ?_ (le_mkS (by simp [q27]))
      refine cut 20 0 [(4, .int .i64 o3)] [] ?_ ?_
      · refine st ?_
        simp
      refine awp_ret ?_
      obtain rfl := Option.some.inj h
      simp
end Go.Proofs.Ythbjlmoaceaeeaa
set_option linter.unusedVariables false
set_option linter.unusedSimpArgs false
set_option maxRecDepth 100000
set_option maxHeartbeats 1000000
namespace Go.Proofs.Ythbjlmoaceaeeaa
open Go Go.Abs
theorem lexer_Keyword_ok (s1 : (List UInt8)) (r : Bool) (h : M.lexer_Keyword s1 = some r) : Pure Try.prog 109 [.str s1] (.bool r) := by
  rw [M.lexer_Keyword] at h
  refine pure_of_body Try.func109 (by rfl) (by rfl) (by simp) (by simp) (by simp) ?_
  refine cut 36 0 [(0, .str s1)] [] ?_ ?_
  · refine st ?_
    simp
  refine awp_seq ?_
  refine cut 36 0 [(3, .str s1)] [] ?_ ?_
  · refine st ?_
    simp
  refine awp_block ?_
  refine awp_seq ?_
  refine cut 36 0 [(3, .str s1), (4, .bool (eqS s1 [97, 110, 100, 97, 108, 115, 111]))] [] ?_ ?_
  · refine st ?_
    simp
  rcases sp h with ⟨g2, h⟩ | ⟨g2, h⟩
  · refine condT rfl g2 ?_
    refine awp_skip ?_
    refine seq_eq ?_
    refine condT rfl (by simp [g2]) ?_
    refine cut 36 0 [(2, .bool true)] [] ?_ ?_
    · refine st ?_
      simp
    refine awp_ret ?_
    refine ret_blk ?_
    refine ret_seq ?_
    obtain rfl := Option.some.inj h
    simp
  · refine condF rfl g2 ?_
    refine cut 36 0 [(3, .str s1), (4, .bool (eqS s1 [99, 97, 115, 101]))] [] ?_ ?_
    · refine st ?_
      simp
    rcases sp h with ⟨g3, h⟩ | ⟨g3, h⟩
    · refine condT rfl g3 ?_
      refine awp_skip ?_
      refine seq_eq ?_
      refine condT rfl (by simp [g3]) ?_
      refine cut 36 0 [(2, .bool true)] [] ?_ ?_
      · refine st ?_
        simp
      refine awp_ret ?_
      refine ret_blk ?_
      refine ret_seq ?_
      obtain rfl := Option.some.inj h
      simp
    · refine condF rfl g3 ?_
      refine cut 36 0 [(3, .str s1), (4, .bool (eqS s1 [100, 97, 116, 97]))] [] ?_ ?_
      · refine st ?_
        simp
      rcases sp h with ⟨g4, h⟩ | ⟨g4, h⟩
      · refine condT rfl g4 ?_
        refine awp_skip ?_
        refine seq_eq ?_
        refine condT rfl (by simp [g4]) ?_
        refine cut 36 0 [(2, .bool true)] [] ?_ ?_
        · refine st ?_
          simp
        refine awp_ret ?_
        refine ret_blk ?_
        refine ret_seq ?_
        obtain rfl := Option.some.inj h
        simp
      · refine condF rfl g4 ?_
        refine cut 36 0 [(3, .str s1), (4, .bool (eqS s1 [100, 105, 118]))] [] ?_ ?_
        · refine st ?_
          simp
        rcases sp h with ⟨g5, h⟩ | ⟨g5, h⟩
        · refine condT rfl g5 ?_
          refine awp_skip ?_
          refine seq_eq ?_
          refine condT rfl (by simp [g5]) ?_
          refine cut 36 0 [(2, .bool true)] [] ?_ ?_
          · refine st ?_
            simp
          refine awp_ret ?_
          refine ret_blk ?_
          refine ret_seq ?_
          obtain rfl := Option.some.inj h
          simp
        · refine condF rfl g5 ?_
          refine cut 36 0 [(3, .str s1), (4, .bool (eqS s1 [101, 108, 115, 101]))] [] ?_ ?_
          · refine st ?_
            simp
          rcases sp h with ⟨g6, h⟩ | ⟨g6, h⟩
          · refine condT rfl g6 ?_
            refine awp_skip ?_
            refine seq_eq ?_
            refine condT rfl (by simp [g6]) ?_
            refine cut 36 0 [(2, .bool true)] [] ?_ ?_
            · refine st ?_
              simp
            refine awp_ret ?_
            refine ret_blk ?_
            refine ret_seq ?_
            obtain rfl := Option.some.inj h
            simp
          · refine condF rfl g6 ?_
            refine cut 36 0 [(3, .str s1), (4, .bool (eqS s1 [101, 110, 100]))] [] ?_ ?_
            · refine st ?_
              simp
            rcases sp h with ⟨g7, h⟩ | ⟨g7, h⟩
            · refine condT rfl g7 ?_
              refine awp_skip ?_
              refine seq_eq ?_
              refine condT rfl (by simp [g7]) ?_
              refine cut 36 0 [(2, .bool true)] [] ?_ ?_
              · refine st ?_
                simp
              refine awp_ret ?_
              refine ret_blk ?_
              refine ret_seq ?_
              obtain rfl := Option.some.inj h
              simp
            · refine condF rfl g7 ?_
              refine cut 36 0 [(3, .str s1), (4, .bool (eqS s1 [102, 110]))] [] ?_ ?_
              · refine st ?_
                simp
              rcases sp h with ⟨g8, h⟩ | ⟨g8, h⟩
              · refine condT rfl g8 ?_
                refine awp_skip ?_
                refine seq_eq ?_
                refine condT rfl (by simp [g8]) ?_
                refine cut 36 0 [(2, .bool true)] [] ?_ ?_
                · refine st ?_
                  simp
                refine awp_ret ?_
                refine ret_blk ?_
                refine ret_seq ?_
                obtain rfl := Option.some.inj h
                simp
              · refine condF rfl g8 ?_
                refine cut 36 0 [(3, .str s1), (4, .bool (eqS s1 [102, 117, 110]))] [] ?_ ?_
                · refine st ?_
                  simp
                rcases sp h with ⟨g9, h⟩ | ⟨g9, h⟩
                · refine condT rfl g9 ?_
                  refine awp_skip ?_
                  refine seq_eq ?_
                  refine condT rfl (by simp [g9]) ?_
                  refine cut 36 0 [(2, .bool true)] [] ?_ ?_
                  · refine st ?_
                    simp
                  refine awp_ret ?_
                  refine ret_blk ?_
                  refine ret_seq ?_
                  obtain rfl := Option.some.inj h
                  simp
                · refine condF rfl g9 ?_
                  refine cut 36 0 [(3, .str s1), (4, .bool (eqS s1 [102, 117, 110, 99, 116, 111, 114]))] [] ?_ ?_
                  · refine st ?_
                    simp
                  rcases sp h with ⟨g10, h⟩ | ⟨g10, h⟩
                  · refine condT rfl g10 ?_
                    refine awp_skip ?_
                    refine seq_eq ?_
                    refine condT rfl (by simp [g10]) ?_
                    refine cut 36 0 [(2, .bool true)] [] ?_ ?_
                    · refine st ?_
                      simp
                    refine awp_ret ?_
                    refine ret_blk ?_
                    refine ret_seq ?_
                    obtain rfl := Option.some.inj h
                    simp
                  · refine condF rfl g10 ?_
                    refine cut 36 0 [(3, .str s1), (4, .bool (eqS s1 [103, 101, 110, 101, 114, 97, 116, 105, 118, 101]))] [] ?_ ?_
                    · refine st ?_
                      simp
                    rcases sp h with ⟨g11, h⟩ | ⟨g11, h⟩
                    · refine condT rfl g11 ?_
                      refine awp_skip ?_
                      refine seq_eq ?_
                      refine condT rfl (by simp [g11]) ?_
                      refine cut 36 0 [(2, .bool true)] [] ?_ ?_
                      · refine st ?_
                        simp
                      refine awp_ret ?_
                      refine ret_blk ?_
                      refine ret_seq ?_
                      obtain rfl := Option.some.inj h
                      simp
                    · refine condF rfl g11 ?_
                      refine cut 36 0 [(3, .str s1), (4, .bool (eqS s1 [105, 102]))] [] ?_ ?_
                      · refine st ?_
                        simp
                      rcases sp h with ⟨g12, h⟩ | ⟨g12, h⟩
                      · refine condT rfl g12 ?_
                        refine awp_skip ?_
                        refine seq_eq ?_
                        refine condT rfl (by simp [g12]) ?_
                        refine cut 36 0 [(2, .bool true)] [] ?_ ?_
                        · refine st ?_
                          simp
                        refine awp_ret ?_
                        refine ret_blk ?_
                        refine ret_seq ?_
                        obtain rfl := Option.some.inj h
                        simp
                      · refine condF rfl g12 ?_
                        refine cut 36 0 [(3, .str s1), (4, .bool (eqS s1 [105, 109, 112, 111, 114, 116]))] [] ?_ ?_
                        · refine st ?_
                          simp
                        rcases sp h with ⟨g13, h⟩ | ⟨g13, h⟩
                        · refine condT rfl g13 ?_
                          refine awp_skip ?_
                          refine seq_eq ?_
                          refine condT rfl (by simp [g13]) ?_
                          refine cut 36 0 [(2, .bool true)] [] ?_ ?_
                          · refine st ?_
                            simp
                          refine awp_ret ?_
                          refine ret_blk ?_
                          refine ret_seq ?_
                          obtain rfl := Option.some.inj h
                          simp
                        · refine condF rfl g13 ?_
                          refine cut 36 0 [(3, .str s1), (4, .bool (eqS s1 [105, 110]))] [] ?_ ?_
                          · refine st ?_
                            simp
                          rcases sp h with ⟨g14, h⟩ | ⟨g14, h⟩
                          · refine condT rfl g14 ?_
                            refine awp_skip ?_
                            refine seq_eq ?_
                            refine condT rfl (by simp [g14]) ?_
                            refine cut 36 0 [(2, .bool true)] [] ?_ ?_
                            · refine st ?_
                              simp
                            refine awp_ret ?_
                            refine ret_blk ?_
                            refine ret_seq ?_
                            obtain rfl := Option.some.inj h
                            simp
                          · refine condF rfl g14 ?_
                            refine cut 36 0 [(3, .str s1), (4, .bool (eqS s1 [105, 110, 99, 108, 117, 100, 101]))] [] ?_ ?_
                            · refine st ?_
                              simp
                            rcases sp h with ⟨g15, h⟩ | ⟨g15, h⟩
                            · refine condT rfl g15 ?_
                              refine awp_skip ?_
                              refine seq_eq ?_
                              refine condT rfl (by simp [g15]) ?_
                              refine cut 36 0 [(2, .bool true)] [] ?_ ?_
                              · refine st ?_
                                simp
                              refine awp_ret ?_
                              refine ret_blk ?_
                              refine ret_seq ?_
                              obtain rfl := Option.some.inj h
                              simp
                            · refine condF rfl g15 ?_
                              refine cut 36 0 [(3, .str s1), (4, .bool (eqS s1 [108, 101, 116]))] [] ?_ ?_
                              · refine st ?_
                                simp
                              rcases sp h with ⟨g16, h⟩ | ⟨g16, h⟩
                              · refine condT rfl g16 ?_
                                refine awp_skip ?_
                                refine seq_eq ?_
                                refine condT rfl (by simp [g16]) ?_
                                refine cut 36 0 [(2, .bool true)] [] ?_ ?_
                                · refine st ?_
                                  simp
                                refine awp_ret ?_
                                refine ret_blk ?_
                                refine ret_seq ?_
                                obtain rfl := Option.some.inj h
                                simp
                              · refine condF rfl g16 ?_
                                refine cut 36 0 [(3, .str s1), (4, .bool (eqS s1 [109, 111, 100]))] [] ?_ ?_
                                · refine st ?_
                                  simp
                                rcases sp h with ⟨g17, h⟩ | ⟨g17, h⟩
                                · refine condT rfl g17 ?_
                                  refine awp_skip ?_
                                  refine seq_eq ?_
                                  refine condT rfl (by simp [g17]) ?_
                                  refine cut 36 0 [(2, .bool true)] [] ?_ ?_
                                  · refine st ?_
                                    simp
                                  refine awp_ret ?_
                                  refine ret_blk ?_
                                  refine ret_seq ?_
                                  obtain rfl := Option.some.inj h
                                  simp
                                · refine condF rfl g17 ?_
                                  refine cut 36 0 [(3, .str s1), (4, .bool (eqS s1 [109, 111, 100, 117, 108, 101]))] [] ?_ ?_
                                  · refine st ?_
                                    simp
                                  rcases sp h with ⟨g18, h⟩ | ⟨g18, h⟩
                                  · refine condT rfl g18 ?_
                                    refine awp_skip ?_
                                    refine seq_eq ?_
                                    refine condT rfl (by simp [g18]) ?_
                                    refine cut 36 0 [(2, .bool true)] [] ?_ ?_
                                    · refine st ?_
                                      simp
                                    refine awp_ret ?_
                                    refine ret_blk ?_
                                    refine ret_seq ?_
                                    obtain rfl := Option.some.inj h
                                    simp
                                  · refine condF rfl g18 ?_
                                    refine cut 36 0 [(3, .str s1), (4, .bool (eqS s1 [111, 102]))] [] ?_ ?_
                                    · refine st ?_
                                      simp
                                    rcases sp h with ⟨g19, h⟩ | ⟨g19, h⟩
                                    · refine condT rfl g19 ?_
                                      refine awp_skip ?_
                                      refine seq_eq ?_
                                      refine condT rfl (by simp [g19]) ?_
                                      refine cut 36 0 [(2, .bool true)] [] ?_ ?_
                                      · refine st ?_
                                        simp
                                      refine awp_ret ?_
                                      refine ret_blk ?_
                                      refine ret_seq ?_
                                      obtain rfl := Option.some.inj h
                                      simp
                                    · refine condF rfl g19 ?_
                                      refine cut 36 0 [(3, .str s1), (4, .bool (eqS s1 [111, 112, 101, 110]))] [] ?_ ?_
                                      · refine st ?_
                                        simp
                                      rcases sp h with ⟨g20, h⟩ | ⟨g20, h⟩
                                      · refine condT rfl g20 ?_
                                        refine awp_skip ?_
                                        refine seq_eq ?_
                                        refine condT rfl (by simp [g20]) ?_
                                        refine cut 36 0 [(2, .bool true)] [] ?_ ?_
                                        · refine st ?_
                                          simp
                                        refine awp_ret ?_
                                        refine ret_blk ?_
                                        refine ret_seq ?_
                                        obtain rfl := Option.some.inj h
                                        simp
                                      · refine condF rfl g20 ?_
                                        refine cut 36 0 [(3, .str s1), (4, .bool (eqS s1 [111, 114, 101, 108, 115, 101]))] [] ?_ ?_
                                        · refine st ?_
                                          simp
                                        rcases sp h with ⟨g21, h⟩ | ⟨g21, h⟩
                                        · refine condT rfl g21 ?_
                                          refine awp_skip ?_
                                          refine seq_eq ?_
                                          refine condT rfl (by simp [g21]) ?_
                                          refine cut 36 0 [(2, .bool true)] [] ?_ ?_
                                          · refine st ?_
                                            simp
                                          refine awp_ret ?_
                                          refine ret_blk ?_
                                          refine ret_seq ?_
                                          obtain rfl := Option.some.inj h
                                          simp
                                        · refine condF rfl g21 ?_
                                          refine cut 36 0 [(3, .str s1), (4, .bool (eqS s1 [112, 97, 99, 107]))] [] ?_ ?_
                                          · refine st ?_
                                            simp
                                          rcases sp h with ⟨g22, h⟩ | ⟨g22, h⟩
                                          · refine condT rfl g22 ?_
                                            refine awp_skip ?_
                                            refine seq_eq ?_
                                            refine condT rfl (by simp [g22]) ?_
                                            refine cut 36 0 [(2, .bool true)] [] ?_ ?_
                                            · refine st ?_
                                              simp
                                            refine awp_ret ?_
                                            refine ret_blk ?_
                                            refine ret_seq ?_
                                            obtain rfl := Option.some.inj h
                                            simp
                                          · refine condF rfl g22 ?_
                                            refine cut 36 0 [(3, .str s1), (4, .bool (eqS s1 [115, 104, 97, 114, 105, 110, 103]))] [] ?_ ?_
                                            · refine st ?_
                                              simp
                                            rcases sp h with ⟨g23, h⟩ | ⟨g23, h⟩
                                            · refine condT rfl g23 ?_
                                              refine awp_skip ?_
                                              refine seq_eq ?_
                                              refine condT rfl (by simp [g23]) ?_
                                              refine cut 36 0 [(2, .bool true)] [] ?_ ?_
                                              · refine st ?_
                                                simp
                                              refine awp_ret ?_
                                              refine ret_blk ?_
                                              refine ret_seq ?_
                                              obtain rfl := Option.some.inj h
                                              simp
                                            · refine condF rfl g23 ?_
                                              refine cut 36 0 [(3, .str s1), (4, .bool (eqS s1 [115, 105, 103]))] [] ?_ ?_
                                              · refine st ?_
                                                simp
                                              rcases sp h with ⟨g24, h⟩ | ⟨g24, h⟩
                                              · refine condT rfl g24 ?_
                                                refine awp_skip ?_
                                                refine seq_eq ?_
                                                refine condT rfl (by simp [g24]) ?_
                                                refine cut 36 0 [(2, .bool true)] [] ?_ ?_
                                                · refine st ?_
                                                  simp
                                                refine awp_ret ?_
                                                refine ret_blk ?_
                                                refine ret_seq ?_
                                                obtain rfl := Option.some.inj h
                                                simp
                                              · refine condF rfl g24 ?_
                                                refine cut 36 0 [(3, .str s1), (4, .bool (eqS s1 [115, 105, 103, 110, 97, 116, 117, 114, 101]))] [] ?_ ?_
                                                · refine st ?_
                                                  simp
                                                rcases sp h with ⟨g25, h⟩ | ⟨g25, h⟩
                                                · refine condT rfl g25 ?_
                                                  refine awp_skip ?_
                                                  refine seq_eq ?_
                                                  refine condT rfl (by simp [g25]) ?_
                                                  refine cut 36 0 [(2, .bool true)] [] ?_ ?_
                                                  · refine st ?_
                                                    simp
                                                  refine awp_ret ?_
                                                  refine ret_blk ?_
                                                  refine ret_seq ?_
                                                  obtain rfl := Option.some.inj h
                                                  simp
                                                · refine condF rfl g25 ?_
                                                  refine cut 36 0 [(3, .str s1), (4, .bool (eqS s1 [115, 116, 114, 117, 99, 116]))] [] ?_ ?_
                                                  · refine st ?_
                                                    simp
                                                  rcases sp h with ⟨g26, h⟩ | ⟨g26, h⟩
                                                  · refine condT rfl g26 ?_
                                                    refine awp_skip ?_
                                                    refine seq_eq ?_
                                                    refine condT rfl (by simp [g26]) ?_
                                                    refine cut 36 0 [(2, .bool true)] [] ?_ ?_
                                                    · refine st ?_
                                                      simp
                                                    refine awp_ret ?_
                                                    refine ret_blk ?_
                                                    refine ret_seq ?_
                                                    obtain rfl := Option.some.inj h
                                                    simp
                                                  · refine condF rfl g26 ?_
                                                    refine cut 36 0 [(3, .str s1), (4, .bool (eqS s1 [115, 116, 114, 117, 99, 116, 117, 114, 101]))] [] ?_ ?_
                                                    · refine st ?_
                                                      simp
                                                    rcases sp h with ⟨g27, h⟩ | ⟨g27, h⟩
                                                    · refine condT rfl g27 ?_
                                                      refine awp_skip ?_
                                                      refine seq_eq ?_
                                                      refine condT rfl (by simp [g27]) ?_
                                                      refine cut 36 0 [(2, .bool true)] [] ?_ ?_
                                                      · refine st ?_
                                                        simp
                                                      refine awp_ret ?_
                                                      refine ret_blk ?_
                                                      refine ret_seq ?_
                                                      obtain rfl := Option.some.inj h
                                                      simp
                                                    · refine condF rfl g27 ?_
                                                      refine cut 36 0 [(3, .str s1), (4, .bool (eqS s1 [116, 104, 101, 110]))] [] ?_ ?_
                                                      · refine st ?_
                                                        simp
                                                      rcases sp h with ⟨g28, h⟩ | ⟨g28, h⟩
                                                      · refine condT rfl g28 ?_
                                                        refine awp_skip ?_
                                                        refine seq_eq ?_
                                                        refine condT rfl (by simp [g28]) ?_
                                                        refine cut 36 0 [(2, .bool true)] [] ?_ ?_
                                                        · refine st ?_
                                                          simp
                                                        refine awp_ret ?_
                                                        refine ret_blk ?_
                                                        refine ret_seq ?_
                                                        obtain rfl := Option.some.inj h
                                                        simp
                                                      · refine condF rfl g28 ?_
                                                        refine cut 36 0 [(3, .str s1), (4, .bool (eqS s1 [116, 121, 112, 101]))] [] ?_ ?_
                                                        · refine st ?_
                                                          simp
                                                        rcases sp h with ⟨g29, h⟩ | ⟨g29, h⟩
                                                        · refine condT rfl g29 ?_
                                                          refine awp_skip ?_
                                                          refine seq_eq ?_
                                                          refine condT rfl (by simp [g29]) ?_
                                                          refine cut 36 0 [(2, .bool true)] [] ?_ ?_
                                                          · refine st ?_
                                                            simp
                                                          refine awp_ret ?_
                                                          refine ret_blk ?_
                                                          refine ret_seq ?_
                                                          obtain rfl := Option.some.inj h
                                                          simp
                                                        · refine condF rfl g29 ?_
                                                          refine cut 36 0 [(3, .str s1), (4, .bool (eqS s1 [117, 110, 112, 97, 99, 107]))] [] ?_ ?_
                                                          · refine st ?_
                                                            simp
                                                          rcases sp h with ⟨g30, h⟩ | ⟨g30, h⟩
                                                          · refine condT rfl g30 ?_
                                                            refine awp_skip ?_
                                                            refine seq_eq ?_
                                                            refine condT rfl (by simp [g30]) ?_
                                                            refine cut 36 0 [(2, .bool true)] [] ?_ ?_
                                                            · refine st ?_
                                                              simp
                                                            refine awp_ret ?_
                                                            refine ret_blk ?_
                                                            refine ret_seq ?_
                                                            obtain rfl := Option.some.inj h
                                                            simp
                                                          · refine condF rfl g30 ?_
                                                            refine cut 36 0 [(3, .str s1), (4, .bool (eqS s1 [118, 97, 108]))] [] ?_ ?_
                                                            · refine st ?_
                                                              simp
                                                            rcases sp h with ⟨g31, h⟩ | ⟨g31, h⟩
                                                            · refine condT rfl g31 ?_
                                                              refine awp_skip ?_
                                                              refine seq_eq ?_
                                                              refine condT rfl (by simp [g31]) ?_
                                                              refine cut 36 0 [(2, .bool true)] [] ?_ ?_
                                                              · refine st ?_
                                                                simp
                                                              refine awp_ret ?_
                                                              refine ret_blk ?_
                                                              refine ret_seq ?_
                                                              obtain rfl := Option.some.inj h
                                                              simp
                                                            · refine condF rfl g31 ?_
                                                              refine last 36 0 [(4, .bool (eqS s1 [119, 105, 116, 104]))] [] ?_ fun zz hs => ?_
                                                              · refine st ?_
                                                                simp
                                                              refine seq_le ?_ hs
                                                              rcases sp h with ⟨g32, h⟩ | ⟨g32, h⟩
                                                              · refine condT rfl g32 ?_
                                                                refine cut 36 0 [(2, .bool true)] [] ?_ ?_
                                                                · refine st ?_
                                                                  simp
                                                                refine awp_ret ?_
                                                                refine ret_blk ?_
                                                                refine ret_seq ?_
                                                                obtain rfl := Option.some.inj h
                                                                simp
                                                              · refine condF rfl g32 ?_
                                                                refine awp_skip ?_
                                                                refine blk_n ?_
                                                                refine seq_eq ?_
                                                                refine cut 36 0 [(2, .bool false)] [] ?_ ?_
                                                                · refine st ?_
                                                                  simp
                                                                refine awp_ret ?_
                                                                obtain rfl := Option.some.inj h
                                                                simp
end Go.Proofs.Ythbjlmoaceaeeaa
set_option linter.unusedVariables false
set_option linter.unusedSimpArgs false
set_option maxRecDepth 100000
set_option maxHeartbeats 1000000
namespace Go.Proofs.Ythbjlmoaceaeeaa
open Go Go.Abs
theorem lexer_scanner_token_1_ok (kind1 : Int) (n2 : Int) (text3 : (List UInt8)) (w4 : Lexer.scanner) (r : Api.Token × Int × Int × Lexer.scanner) (h : M.lexer_scanner_token_1 kind1 n2 text3 w4 = some r) : Raw Try.prog 103 [.int .i64 kind1, .int .i64 n2, .str text3, .mptr 0 0] [[.mptr 1 0], [.str w4.s, .int .i64 w4.at_]] (.tup [.agg [.int .i64 r.1.Kind, .str r.1.Text, .int .i64 r.1.At.Line, .int .i64 r.1.At.Column], .int .i64 r.2.1, .int .i64 r.2.2.1]) [[.mptr 1 0], [.str r.2.2.2.s, .int .i64 r.2.2.2.at_]] := by
  rw [M.lexer_scanner_token_1] at h
  refine raw_of_bodyB Try.func103 (by rfl) (by rfl) (by simp) (by simp) ?_
  refine cut 21 2 [(0, .int .i64 kind1), (1, .int .i64 n2), (2, .str text3), (3, .mptr 0 0), (7, .mptr 2 0)] [[.mptr 1 0], [.str w4.s, .int .i64 w4.at_], [.int .i64 0, .str ([] : List UInt8), .int .i64 0, .int .i64 0]] ?_ ?_
  · refine st ?_
    simp
  obtain ⟨n5, q6, h⟩ := bs h
  obtain ⟨q7, q8⟩ := chk_ok q6
  try simp at q7
  try simp at q8
  have c9 := q7; simp only [Rng, inR] at c9
  refine cut 21 2 [(0, .int .i64 kind1), (2, .str text3), (7, .mptr 2 0)] [[.mptr 1 0], [.str w4.s, .int .i64 n5], [.int .i64 0, .str ([] : List UInt8), .int .i64 0, .int .i64 0]] ?_ ?_
  · refine st ?_
    simp [q7, q8]
  refine cut 21 2 [(7, .mptr 2 0), (8, .int .i64 0), (9, .int .i64 0)] [[.mptr 1 0], [.str w4.s, .int .i64 n5], [.int .i64 kind1, .str text3, .int .i64 0, .int .i64 0]] ?_ ?_
  · refine st ?_
    simp
  refine awp_ret ?_
  obtain rfl := Option.some.inj h
  simp
end Go.Proofs.Ythbjlmoaceaeeaa
set_option linter.unusedVariables false
set_option linter.unusedSimpArgs false
set_option maxRecDepth 100000
set_option maxHeartbeats 1000000
namespace Go.Proofs.Ythbjlmoaceaeeaa
open Go Go.Abs
theorem lexer_scanner_token_2_ok (by1 : Int) (e2 : Int) (w3 : Lexer.scanner) (r : Api.Token × Int × Int) (h : M.lexer_scanner_token_2 by1 e2 w3 = some r) : Raw Try.prog 104 [.int .i64 by1, .int .i64 e2, .mptr 0 0] [[.mptr 1 0], [.str w3.s, .int .i64 w3.at_]] (.tup [.agg [.int .i64 r.1.Kind, .str r.1.Text, .int .i64 r.1.At.Line, .int .i64 r.1.At.Column], .int .i64 r.2.1, .int .i64 r.2.2]) [[.mptr 1 0], [.str w3.s, .int .i64 w3.at_]] := by
  rw [M.lexer_scanner_token_2] at h
  refine raw_of_bodyB Try.func104 (by rfl) (by rfl) (by simp) (by simp) ?_
  refine cut 16 2 [(0, .int .i64 by1), (1, .int .i64 e2), (2, .mptr 0 0), (5, .mptr 2 0)] [[.mptr 1 0], [.str w3.s, .int .i64 w3.at_], [.int .i64 0, .str ([] : List UInt8), .int .i64 0, .int .i64 0]] ?_ ?_
  · refine st ?_
    simp
  obtain ⟨n4, q5, h⟩ := bs h
  obtain ⟨q6, q7⟩ := chk_ok q5
  try simp at q6
  try simp at q7
  have c8 := q6; simp only [Rng, inR] at c8
  refine cut 16 2 [(5, .mptr 2 0), (6, .int .i64 n4), (7, .int .i64 e2)] [[.mptr 1 0], [.str w3.s, .int .i64 w3.at_], [.int .i64 0, .str ([] : List UInt8), .int .i64 0, .int .i64 0]] ?_ ?_
  · refine awp_region_draw [2] mixed (n := 16) rfl (by decide) ?_
    simp [q6, q7]
  refine awp_ret ?_
  obtain rfl := Option.some.inj h
  simp
end Go.Proofs.Ythbjlmoaceaeeaa
set_option linter.unusedVariables false
set_option linter.unusedSimpArgs false
set_option maxRecDepth 100000
set_option maxHeartbeats 1000000
namespace Go.Proofs.Ythbjlmoaceaeeaa
open Go Go.Abs
theorem lexer_length_digit_ok (fuel : Nat) (s1 : (List UInt8)) (r : Int) (h : M.lexer_length_digit fuel s1 = some r) : Pure Try.prog 107 [.str s1, .fn (.func 110) [] []] (.int .i64 r) := by
  rw [M.lexer_length_digit] at h
  refine pure_of_body Try.func107 (by rfl) (by rfl) (by simp) (by simp) (by simp) ?_
  refine cut 20 0 [(0, .str s1), (1, .fn (.func 110) [] [])] [] ?_ ?_
  · refine st ?_
    simp
  refine cut 20 0 [(0, .str s1), (1, .fn (.func 110) [] []), (5, .int .i64 0)] [] ?_ ?_
  · refine st ?_
    simp
  refine awp_seq ?_
  refine awp_block ?_
  obtain ⟨o3, l4, h⟩ := bs h
  refine awp_inv (fun p : Nat × Int => mkS 20 0 [(0, .str s1), (1, .fn (.func 110) [] []), (5, .int .i64 p.2)] []) (fun p => M.lexer_length_digit_l1 s1 p.1 p.2 = some o3 ∧ 0 ≤ p.2) (fun p => p.1) (fuel, 0) ⟨l4, by (try dsimp only); omega⟩ (le_mkS (by simp)) ?_
  rintro ⟨k6, n2⟩ ⟨l4, c5⟩
  dsimp only at l4 c5 ⊢
  cases k6 with
  | zero =>
    rw [M.lexer_length_digit_l1] at l4; cases l4
  | succ k7 =>
    rw [M.lexer_length_digit_l1] at l4
    refine awp_seq ?_
    obtain ⟨b19, q20, l4⟩ := bs l4
    refine cut 20 0 [(0, .str s1), (1, .fn (.func 110) [] []), (5, .int .i64 n2), (16, .bool b19)] [] ?_ ?_
    · rcases sp q20 with ⟨g8, q20⟩ | ⟨g8, q20⟩
      · have c9 := ltT g8
        refine factS 0 rfl fun f10 => ?_
        obtain ⟨c11, q12, q20⟩ := bs q20
        obtain ⟨q13, q14⟩ := idx_ok q12
        obtain ⟨v15, q16, q20⟩ := bs q20
        obtain rfl := Option.some.inj q20
        refine st ?_
        simp [g8, q13, q14]
        have r28 := lexer_digit_ok c11 v15 q16
        try simp [g8, q13, q14] at r28
        refine callPure r28 (by simp) rfl ?_
        simp [g8, q13, q14]
      · have c17 := ltF g8
        refine factS 0 rfl fun f18 => ?_
        obtain rfl := Option.some.inj q20
        refine st ?_
        simp [g8]
    rcases sp l4 with ⟨g21, l4⟩ | ⟨g21, l4⟩
    · refine condT rfl g21 ?_
      refine awp_skip ?_
      refine seq_eq ?_
      refine awp_block ?_
      obtain ⟨n22, q23, l4⟩ := bs l4
      obtain ⟨q24, q25⟩ := chk_ok q23
      try simp at q24
      try simp at q25
      have c26 := q24; simp only [Rng, inR] at c26
      refine last 20 0 [(0, .str s1), (1, .fn (.func 110) [] []), (5, .int .i64 n22)] [] ?_ fun zz hs => ?_
      · refine st ?_
        simp [q24, q25]
      refine blk_n ?_
      exact ⟨(k7, n22), hs, ⟨l4, by (try dsimp only); omega⟩, by simp⟩
    · refine condF rfl g21 ?_
      refine awp_exit ?_
      refine exit_seq ?_
      have q27 := Option.some.inj l4
      have q27 := q27.symm
      refine exit_seq ?_
      refine exit_blk ?_
      refine seq_le (t := mkS 20 0 [(5, .int .i64 o3)] []) ?_ (le_mkS (by simp [q27]))
      refine cut 20 0 [(4, .int .i64 o3)] [] ?_ ?_
      · refine st ?_
        simp
      refine awp_ret ?_
      obtain rfl := Option.some.inj h
      simp
end Go.Proofs.Ythbjlmoaceaeeaa
set_option linter.unusedVariables false
set_option linter.unusedSimpArgs false
set_option maxRecDepth 100000
set_option maxHeartbeats 1000000
namespace Go.Proofs.Ythbjlmoaceaeeaa
open Go Go.Abs
theorem lexer_number_ok (fuel : Nat) (s1 : (List UInt8)) (r : Int) (h : M.lexer_number fuel s1 = some r) : Pure Try.prog 111 [.str s1] (.int .i64 r) := by
  rw [M.lexer_number] at h
  refine pure_of_body Try.func111 (by rfl) (by rfl) (by simp) (by simp) (by simp) ?_
  refine cut 29 0 [(0, .str s1)] [] ?_ ?_
  · refine st ?_
    simp
  refine awp_seq ?_
  obtain ⟨b9, q10, h⟩ := bs h
  refine cut 29 0 [(0, .str s1), (12, .bool b9)] [] ?_ ?_
  · rcases sp q10 with ⟨g2, q10⟩ | ⟨g2, q10⟩
    · have c3 := ltT g2
      refine factS 0 rfl fun f4 => ?_
      obtain ⟨c5, q6, q10⟩ := bs q10
      obtain rfl := Option.some.inj q10
      refine st ?_
      simp [g2, q6]
    · have c7 := ltF g2
      refine factS 0 rfl fun f8 => ?_
      obtain rfl := Option.some.inj q10
      refine st ?_
      simp [g2]
  rcases sp h with ⟨g11, h⟩ | ⟨g11, h⟩
  · refine condT rfl g11 ?_
    refine cut 29 0 [(2, .int .i64 3)] [] ?_ ?_
    · refine st ?_
      simp
    refine awp_ret ?_
    refine ret_seq ?_
    obtain rfl := Option.some.inj h
    simp
  · refine condF rfl g11 ?_
    refine awp_skip ?_
    refine seq_eq ?_
    refine cut 29 0 [(0, .str s1), (3, .int .i64 0)] [] ?_ ?_
    · refine st ?_
      simp
    refine awp_seq ?_
    refine cut 29 0 [(0, .str s1), (3, .int .i64 0), (14, .int .i64 (s1.length : Int)), (15, .int .i64 0)] [] ?_ ?_
    · refine st ?_
      simp
    refine awp_block ?_
    obtain ⟨o15, l16, h⟩ := bs h
    refine awp_inv (fun p : Nat × Int × Nat => mkS 29 0 [(0, .str s1), (3, .int .i64 p.2.1), (14, .int .i64 (s1.length : Int)), (15, .int .i64 ((p.2.2 : Nat) : Int))] []) (fun p => M.lexer_number_l1 s1 p.1 p.2.1 p.2.2 = some o15) (fun p => p.1) (fuel, 0, 0) l16 (le_mkS (by simp)) ?_
    rintro ⟨k17, n12, i13⟩ l16
    dsimp only at l16 ⊢
    cases k17 with
    | zero =>
      rw [M.lexer_number_l1] at l16; cases l16
    | succ k18 =>
      rw [M.lexer_number_l1] at l16
      refine cut 29 0 [(0, .str s1), (3, .int .i64 n12), (14, .int .i64 (s1.length : Int)), (15, .int .i64 ((i13 : Nat) : Int)), (16, .bool (ltI ((i13 : Nat) : Int) (s1.length : Int)))] [] ?_ ?_
      · refine st ?_
        simp
      refine awp_seq ?_
      rcases sp l16 with ⟨g19, l16⟩ | ⟨g19, l16⟩
      · have c20 := ltT g19
        refine condT rfl g19 ?_
        refine factS 0 rfl fun f21 => ?_
        refine awp_skip ?_
        refine seq_eq ?_
        refine awp_seq ?_
        refine awp_block ?_
        refine cut 29 0 [(0, .str s1), (3, .int .i64 n12), (4, .int .i64 ((i13 : Nat) : Int)), (14, .int .i64 (s1.length : Int)), (15, .int .i64 ((i13 : Nat) : Int))] [] ?_ ?_
        · refine st ?_
          simp
        obtain ⟨n22, q23, l16⟩ := bs l16
        obtain ⟨q24, q25⟩ := chk_ok q23
        try simp at q24
        try simp at q25
        have c26 := q24; simp only [Rng, inR] at c26
        obtain ⟨c27, q28, l16⟩ := bs l16
        obtain ⟨n29, q30, l16⟩ := bs l16
        obtain ⟨q31, q32⟩ := chk_ok q30
        try simp at q31
        try simp at q32
        have c33 := q31; simp only [Rng, inR] at c33
        have q34 : Rng .i64 (n29) := by simp only [Rng, inR]; omega
        obtain ⟨n35, q36, l16⟩ := bs l16
        obtain ⟨q37, q38⟩ := chk_ok q36
        try simp at q37
        try simp at q38
        have c39 := q37; simp only [Rng, inR] at c39
        refine cut 29 0 [(0, .str s1), (3, .int .i64 n35), (14, .int .i64 (s1.length : Int)), (15, .int .i64 ((i13 : Nat) : Int))] [] ?_ ?_
        · refine st ?_
          simp [q24, q25, q28, q31, q32, q34, q37, q38]
        refine cut 29 0 [(0, .str s1), (3, .int .i64 n35), (14, .int .i64 (s1.length : Int)), (15, .int .i64 ((i13 : Nat) : Int)), (27, .bool (ltI 4503599627370496 n35))] [] ?_ ?_
        · refine st ?_
          simp
        rcases sp l16 with ⟨g40, l16⟩ | ⟨g40, l16⟩
        · have c41 := ltT g40
          refine condT rfl g40 ?_
          refine cut 29 0 [(2, .int .i64 6)] [] ?_ ?_
          · refine st ?_
            simp
          refine awp_ret ?_
          refine ret_blk ?_
          refine ret_seq ?_
          replace h := retL l16 h
          refine ret_seq ?_
          refine ret_blk ?_
          refine ret_seq ?_
          obtain rfl := Option.some.inj h
          simp
        · have c42 := ltF g40
          refine condF rfl g40 ?_
          refine awp_skip ?_
          refine blk_n ?_
          refine seq_eq ?_
          have q43 : Rng .i64 (((i13 : Nat) : Int) + 1) := by simp only [Rng, inR]; omega
          try simp at q43
          refine last 29 0 [(0, .str s1), (3, .int .i64 n35), (14, .int .i64 (s1.length : Int)), (15, .int .i64 ((i13 + 1 : Nat) : Int))] [] ?_ fun zz hs => ?_
          · refine st ?_
            simp [q43]
          exact ⟨(k18, n35, i13 + 1), hs, l16, by simp⟩
      · have c44 := ltF g19
        refine condF rfl g19 ?_
        refine factS 0 rfl fun f45 => ?_
        refine awp_exit ?_
        refine exit_seq ?_
        rcases o15 with o15 | o14
        · cases l16
        have q46 := Sum.inr.inj (Option.some.inj l16)
        replace h := elimR h
        refine exit_seq ?_
        refine exit_blk ?_
        refine seq_le (t := mkS 29 0 [] []) ?_ (le_mkS (by simp []))
        refine cut 29 0 [(2, .int .i64 0)] [] ?_ ?_
        · refine st ?_
          simp
        refine awp_ret ?_
        obtain rfl := Option.some.inj h
        simp
end Go.Proofs.Ythbjlmoaceaeeaa
set_option linter.unusedVariables false
set_option linter.unusedSimpArgs false
set_option maxRecDepth 100000
set_option maxHeartbeats 1000000
namespace Go.Proofs.Ythbjlmoaceaeeaa
open Go Go.Abs
theorem strings_Builder_WriteByte_ok (c1 : UInt8) (b2 : (List UInt8)) (r : (List UInt8)) (h : M.strings_Builder_WriteByte c1 b2 = some r) : Raw Try.prog 72 [.mptr 0 0, .int .u8 (c1.toNat : Int)] [[.baddr 119 0, .osl ⟨1, 5⟩ (b2.map cU)]] (.nilif) [[.baddr 119 0, .osl ⟨1, 5⟩ (r.map cU)]] := by
  rw [M.strings_Builder_WriteByte] at h
  refine raw_of_bodyB Try.func72 (by rfl) (by rfl) (by simp) (by simp) ?_
  refine cut 17 1 [(0, .mptr 0 0), (1, .int .u8 (c1.toNat : Int))] [[.baddr 119 0, .osl ⟨1, 5⟩ (b2.map cU)]] ?_ ?_
  · refine st ?_
    simp
  obtain ⟨v3, q4, h⟩ := bs h
  refine cut 17 1 [(0, .mptr 0 0), (1, .int .u8 (c1.toNat : Int))] [[.baddr 119 0, .osl ⟨1, 5⟩ (b2.map cU)]] ?_ ?_
  · refine st ?_
    simp
    have r9 := (strings_Builder_copyCheck_ok b2 v3 q4).frame [0] [[.baddr 119 0, .osl ⟨1, 5⟩ (b2.map cU)]] (by simp)
    try simp [] at r9
    refine callRaw r9 (by simp []) rfl ?_
    simp
  obtain ⟨l5, q6, h⟩ := bs h
  obtain ⟨q7, q8⟩ := app_ok q6
  try simp at q7
  refine cut 17 1 [] [[.baddr 119 0, .osl ⟨1, 5⟩ (l5.map cU)]] ?_ ?_
  · refine st ?_
    simp [q7, q8]
  refine cut 17 1 [(4, .nilif)] [[.baddr 119 0, .osl ⟨1, 5⟩ (l5.map cU)]] ?_ ?_
  · refine st ?_
    simp
  refine awp_ret ?_
  obtain rfl := Option.some.inj h
  simp
end Go.Proofs.Ythbjlmoaceaeeaa
set_option linter.unusedVariables false
set_option linter.unusedSimpArgs false
set_option maxRecDepth 100000
set_option maxHeartbeats 1000000
namespace Go.Proofs.Ythbjlmoaceaeeaa
open Go Go.Abs
theorem lexer_visible_ok (c1 : UInt8) (r : Bool) (h : M.lexer_visible c1 = some r) : Pure Try.prog 74 [.int .u8 (c1.toNat : Int)] (.bool r) := by
  rw [M.lexer_visible] at h
  refine pure_of_body Try.func74 (by rfl) (by rfl) (by simp) (by simp) (by simp) ?_
  refine cut 9 0 [(0, .int .u8 (c1.toNat : Int))] [] ?_ ?_
  · refine st ?_
    simp
  refine cut 9 0 [(2, .bool ((leI 32 (c1.toNat : Int)) && (leI (c1.toNat : Int) 126)))] [] ?_ ?_
  · rcases tf (leI 32 (c1.toNat : Int)) with g2 | g2
    · have c3 := leT g2
      refine st ?_
      simp [g2]
    · have c4 := leF g2
      refine st ?_
      simp [g2]
  refine awp_ret ?_
  obtain rfl := Option.some.inj h
  simp
end Go.Proofs.Ythbjlmoaceaeeaa
set_option linter.unusedVariables false
set_option linter.unusedSimpArgs false
set_option maxRecDepth 100000
set_option maxHeartbeats 1000000
namespace Go.Proofs.Ythbjlmoaceaeeaa
open Go Go.Abs
theorem lexer_literal_ok (fuel : Nat) (s1 : (List UInt8)) (r : (List UInt8) × Int × Int × Int) (h : M.lexer_literal fuel s1 = some r) : Pure Try.prog 76 [.str s1] (.tup [.str r.1, .int .i64 r.2.1, .int .i64 r.2.2.1, .int .i64 r.2.2.2]) := by
  rw [M.lexer_literal] at h
  refine pure_of_body Try.func76 (by rfl) (by rfl) (by simp) (by simp) (by simp) ?_
  refine cut 61 0 [(0, .str s1)] [] ?_ ?_
  · refine st ?_
    simp
  refine cut 61 0 [(0, .str s1), (6, .mptr 0 0)] [[.baddr 119 0, .osl ⟨1, 5⟩ (([] : List UInt8).map cU)]] ?_ ?_
  · refine st ?_
    simp
  refine awp_seq ?_
  refine cut 61 0 [(0, .str s1), (6, .mptr 0 0), (7, .int .i64 1)] [[.baddr 119 0, .osl ⟨1, 5⟩ (([] : List UInt8).map cU)]] ?_ ?_
  · refine st ?_
    simp
  refine awp_block ?_
  obtain ⟨o5, l6, h⟩ := bs h
  refine awp_inv (fun p : Nat × (List UInt8) × Nat => mkS 61 0 [(0, .str s1), (6, .mptr 0 0), (7, .int .i64 ((p.2.2 : Nat) : Int))] [[.baddr 119 0, .osl ⟨1, 5⟩ (p.2.1.map cU)]]) (fun p => M.lexer_literal_l1 s1 p.1 p.2.1 p.2.2 = some o5) (fun p => p.1) (fuel, ([] : List UInt8), 1) l6 (le_mkS (by simp)) ?_
  rintro ⟨k7, buf2, i3⟩ l6
  dsimp only at l6 ⊢
  cases k7 with
  | zero =>
    rw [M.lexer_literal_l1] at l6; cases l6
  | succ k8 =>
    rw [M.lexer_literal_l1] at l6
    refine awp_seq ?_
    refine cut 61 0 [(0, .str s1), (6, .mptr 0 0), (7, .int .i64 ((i3 : Nat) : Int)), (12, .bool (ltI ((i3 : Nat) : Int) (s1.length : Int)))] [[.baddr 119 0, .osl ⟨1, 5⟩ (buf2.map cU)]] ?_ ?_
    · refine st ?_
      simp
    rcases sp l6 with ⟨g9, l6⟩ | ⟨g9, l6⟩
    · have c10 := ltT g9
      refine condT rfl g9 ?_
      refine factS 0 rfl fun f11 => ?_
      refine awp_skip ?_
      refine seq_eq ?_
      refine awp_seq ?_
      refine awp_block ?_
      obtain ⟨c12, q13, l6⟩ := bs l6
      refine cut 61 0 [(0, .str s1), (6, .mptr 0 0), (7, .int .i64 ((i3 : Nat) : Int)), (8, .int .u8 (c12.toNat : Int))] [[.baddr 119 0, .osl ⟨1, 5⟩ (buf2.map cU)]] ?_ ?_
      · refine st ?_
        simp [q13]
      refine awp_block ?_
      refine cut 61 0 [(0, .str s1), (6, .mptr 0 0), (7, .int .i64 ((i3 : Nat) : Int)), (8, .int .u8 (c12.toNat : Int)), (20, .bool (eqI (c12.toNat : Int) 34))] [[.baddr 119 0, .osl ⟨1, 5⟩ (buf2.map cU)]] ?_ ?_
      · refine st ?_
        simp
      rcases sp l6 with ⟨g14, l6⟩ | ⟨g14, l6⟩
      · have c15 := eqT g14
        refine condT rfl g14 ?_
        obtain ⟨v16, q17, l6⟩ := bs l6
        have q18 : Rng .i64 (((i3 : Nat) : Int) + 1) := by simp only [Rng, inR]; omega
        try simp at q18
        refine cut 61 0 [(2, .str v16), (3, .int .i64 ((i3 + 1 : Nat) : Int)), (4, .int .i64 0), (5, .int .i64 0)] [[.baddr 119 0, .osl ⟨1, 5⟩ (buf2.map cU)]] ?_ ?_
        · refine st ?_
          simp [q18]
          have r19 := (strings_Builder_String_ok buf2 v16 q17).frame [0] [[.baddr 119 0, .osl ⟨1, 5⟩ (buf2.map cU)]] (by simp)
          try simp [q18] at r19
          refine callRaw r19 (by simp [q18]) rfl ?_
          simp [q18]
        refine awp_ret ?_
        refine ret_blk ?_
        refine ret_blk ?_
        refine ret_seq ?_
        replace h := retL l6 h
        refine ret_seq ?_
        refine ret_blk ?_
        refine ret_seq ?_
        obtain rfl := Option.some.inj h
        simp
      · have c20 := eqF g14
        refine condF rfl g14 ?_
        refine cut 61 0 [(0, .str s1), (6, .mptr 0 0), (7, .int .i64 ((i3 : Nat) : Int)), (8, .int .u8 (c12.toNat : Int)), (26, .bool ((eqI (c12.toNat : Int) 92) && (ltI ((i3 + 1 : Nat) : Int) (s1.length : Int))))] [[.baddr 119 0, .osl ⟨1, 5⟩ (buf2.map cU)]] ?_ ?_
        · rcases tf (eqI (c12.toNat : Int) 92) with g21 | g21
          · have c22 := eqT g21
            have q23 : Rng .i64 (((i3 : Nat) : Int) + 1) := by simp only [Rng, inR]; omega
            try simp at q23
            refine st ?_
            simp [g21, q23]
          · have c24 := eqF g21
            refine st ?_
            simp [g21]
        rcases sp l6 with ⟨g25, l6⟩ | ⟨g25, l6⟩
        · obtain ⟨g26, g27⟩ := andT g25
          have c28 := eqT g26
          have c29 := ltT g27
          refine condT rfl g25 ?_
          have q30 : Rng .i64 (((i3 : Nat) : Int) + 1) := by simp only [Rng, inR]; omega
          try simp at q30
          refine cut 61 0 [(0, .str s1), (6, .mptr 0 0), (7, .int .i64 ((i3 + 1 : Nat) : Int))] [[.baddr 119 0, .osl ⟨1, 5⟩ (buf2.map cU)]] ?_ ?_
          · refine st ?_
            simp [q30]
          obtain ⟨c31, q32, l6⟩ := bs l6
          refine cut 61 0 [(0, .str s1), (6, .mptr 0 0), (7, .int .i64 ((i3 + 1 : Nat) : Int)), (40, .int .u8 (c31.toNat : Int))] [[.baddr 119 0, .osl ⟨1, 5⟩ (buf2.map cU)]] ?_ ?_
          · refine st ?_
            simp [q32]
          refine awp_block ?_
          refine awp_seq ?_
          refine cut 61 0 [(0, .str s1), (6, .mptr 0 0), (7, .int .i64 ((i3 + 1 : Nat) : Int)), (40, .int .u8 (c31.toNat : Int)), (43, .bool (eqI (c31.toNat : Int) 34))] [[.baddr 119 0, .osl ⟨1, 5⟩ (buf2.map cU)]] ?_ ?_
          · refine st ?_
            simp
          rcases sp l6 with ⟨g33, l6⟩ | ⟨g33, l6⟩
          · have c34 := eqT g33
            refine condT rfl g33 ?_
            refine awp_skip ?_
            refine seq_eq ?_
            refine condT rfl (by simp [g33]) ?_
            obtain ⟨v35, q36, l6⟩ := bs l6
            refine last 61 0 [(0, .str s1), (6, .mptr 0 0), (7, .int .i64 ((i3 + 1 : Nat) : Int))] [[.baddr 119 0, .osl ⟨1, 5⟩ (v35.map cU)]] ?_ fun zz hs => ?_
            · refine st ?_
              simp [q32]
              have r38 := (strings_Builder_WriteByte_ok c31 buf2 v35 q36).frame [0] [[.baddr 119 0, .osl ⟨1, 5⟩ (buf2.map cU)]] (by simp)
              try simp [q32] at r38
              refine callRaw r38 (by simp [q32]) rfl ?_
              simp [q32]
            refine blk_n ?_
            refine blk_n ?_
            refine blk_n ?_
            refine seq_le ?_ hs
            have q37 : Rng .i64 (((i3 + 1 : Nat) : Int) + 1) := by simp only [Rng, inR]; omega
            try simp at q37
            refine last 61 0 [(0, .str s1), (6, .mptr 0 0), (7, .int .i64 (((i3 + 1) + 1 : Nat) : Int))] [[.baddr 119 0, .osl ⟨1, 5⟩ (v35.map cU)]] ?_ fun zz hs => ?_
            · refine st ?_
              simp [q37]
            exact ⟨(k8, v35, (i3 + 1) + 1), hs, l6, by simp⟩
          · have c39 := eqF g33
            refine condF rfl g33 ?_
            refine last 61 0 [(0, .str s1), (6, .mptr 0 0), (7, .int .i64 ((i3 + 1 : Nat) : Int)), (40, .int .u8 (c31.toNat : Int)), (43, .bool (eqI (c31.toNat : Int) 92))] [[.baddr 119 0, .osl ⟨1, 5⟩ (buf2.map cU)]] ?_ fun zz hs => ?_
            · refine st ?_
              simp
            refine seq_le ?_ hs
            rcases sp l6 with ⟨g40, l6⟩ | ⟨g40, l6⟩
            · have c41 := eqT g40
              refine condT rfl g40 ?_
              obtain ⟨v42, q43, l6⟩ := bs l6
              refine last 61 0 [(0, .str s1), (6, .mptr 0 0), (7, .int .i64 ((i3 + 1 : Nat) : Int))] [[.baddr 119 0, .osl ⟨1, 5⟩ (v42.map cU)]] ?_ fun zz hs => ?_
              · refine st ?_
                simp [q32]
                have r45 := (strings_Builder_WriteByte_ok c31 buf2 v42 q43).frame [0] [[.baddr 119 0, .osl ⟨1, 5⟩ (buf2.map cU)]] (by simp)
                try simp [q32] at r45
                refine callRaw r45 (by simp [q32]) rfl ?_
                simp [q32]
              refine blk_n ?_
              refine blk_n ?_
              refine blk_n ?_
              refine seq_le ?_ hs
              have q44 : Rng .i64 (((i3 + 1 : Nat) : Int) + 1) := by simp only [Rng, inR]; omega
              try simp at q44
              refine last 61 0 [(0, .str s1), (6, .mptr 0 0), (7, .int .i64 (((i3 + 1) + 1 : Nat) : Int))] [[.baddr 119 0, .osl ⟨1, 5⟩ (v42.map cU)]] ?_ fun zz hs => ?_
              · refine st ?_
                simp [q44]
              exact ⟨(k8, v42, (i3 + 1) + 1), hs, l6, by simp⟩
            · have c46 := eqF g40
              refine condF rfl g40 ?_
              refine cut 61 0 [(0, .str s1), (6, .mptr 0 0), (7, .int .i64 ((i3 + 1 : Nat) : Int)), (50, .bool (eqI (c31.toNat : Int) 110))] [[.baddr 119 0, .osl ⟨1, 5⟩ (buf2.map cU)]] ?_ ?_
              · refine st ?_
                simp
              rcases sp l6 with ⟨g47, l6⟩ | ⟨g47, l6⟩
              · have c48 := eqT g47
                refine condT rfl g47 ?_
                obtain ⟨v49, q50, l6⟩ := bs l6
                refine last 61 0 [(0, .str s1), (6, .mptr 0 0), (7, .int .i64 ((i3 + 1 : Nat) : Int))] [[.baddr 119 0, .osl ⟨1, 5⟩ (v49.map cU)]] ?_ fun zz hs => ?_
                · refine st ?_
                  simp
                  have r52 := (strings_Builder_WriteByte_ok (10 : UInt8) buf2 v49 q50).frame [0] [[.baddr 119 0, .osl ⟨1, 5⟩ (buf2.map cU)]] (by simp)
                  try simp [] at r52
                  refine callRaw r52 (by simp []) rfl ?_
                  simp
                refine blk_n ?_
                refine blk_n ?_
                refine blk_n ?_
                refine seq_le ?_ hs
                have q51 : Rng .i64 (((i3 + 1 : Nat) : Int) + 1) := by simp only [Rng, inR]; omega
                try simp at q51
                refine last 61 0 [(0, .str s1), (6, .mptr 0 0), (7, .int .i64 (((i3 + 1) + 1 : Nat) : Int))] [[.baddr 119 0, .osl ⟨1, 5⟩ (v49.map cU)]] ?_ fun zz hs => ?_
                · refine st ?_
                  simp [q51]
                exact ⟨(k8, v49, (i3 + 1) + 1), hs, l6, by simp⟩
              · have c53 := eqF g47
                refine condF rfl g47 ?_
                have q54 : Rng .i64 (((i3 + 1 : Nat) : Int) - 1) := by simp only [Rng, inR]; omega
                try simp at q54
                refine cut 61 0 [(2, .str ([] : List UInt8)), (3, .int .i64 0), (4, .int .i64 (((i3 + 1 : Nat) : Int) - 1)), (5, .int .i64 3)] [[.baddr 119 0, .osl ⟨1, 5⟩ (buf2.map cU)]] ?_ ?_
                · refine st ?_
                  simp [q54]
                refine awp_ret ?_
                refine ret_blk ?_
                refine ret_blk ?_
                refine ret_blk ?_
                refine ret_seq ?_
                replace h := retL l6 h
                refine ret_seq ?_
                refine ret_blk ?_
                refine ret_seq ?_
                obtain rfl := Option.some.inj h
                simp
        · refine condF rfl g25 ?_
          refine cut 61 0 [(0, .str s1), (6, .mptr 0 0), (7, .int .i64 ((i3 : Nat) : Int)), (8, .int .u8 (c12.toNat : Int)), (53, .bool (eqI (c12.toNat : Int) 92))] [[.baddr 119 0, .osl ⟨1, 5⟩ (buf2.map cU)]] ?_ ?_
          · refine st ?_
            simp
          rcases sp l6 with ⟨g55, l6⟩ | ⟨g55, l6⟩
          · have c56 := eqT g55
            refine condT rfl g55 ?_
            refine cut 61 0 [(2, .str ([] : List UInt8)), (3, .int .i64 0), (4, .int .i64 0), (5, .int .i64 4)] [[.baddr 119 0, .osl ⟨1, 5⟩ (buf2.map cU)]] ?_ ?_
            · refine st ?_
              simp
            refine awp_ret ?_
            refine ret_blk ?_
            refine ret_blk ?_
            refine ret_seq ?_
            replace h := retL l6 h
            refine ret_seq ?_
            refine ret_blk ?_
            refine ret_seq ?_
            obtain rfl := Option.some.inj h
            simp
          · have c57 := eqF g55
            refine condF rfl g55 ?_
            obtain ⟨v58, q59, l6⟩ := bs l6
            refine cut 61 0 [(0, .str s1), (6, .mptr 0 0), (7, .int .i64 ((i3 : Nat) : Int)), (8, .int .u8 (c12.toNat : Int)), (56, .bool (!v58))] [[.baddr 119 0, .osl ⟨1, 5⟩ (buf2.map cU)]] ?_ ?_
            · refine st ?_
              simp
              have r67 := lexer_visible_ok c12 v58 q59
              try simp [] at r67
              refine callPure r67 (by simp) rfl ?_
              simp
            rcases sp l6 with ⟨g60, l6⟩ | ⟨g60, l6⟩
            · have g61 := notT g60
              refine condT rfl g60 ?_
              refine cut 61 0 [(2, .str ([] : List UInt8)), (3, .int .i64 0), (4, .int .i64 ((i3 : Nat) : Int)), (5, .int .i64 3)] [[.baddr 119 0, .osl ⟨1, 5⟩ (buf2.map cU)]] ?_ ?_
              · refine st ?_
                simp
              refine awp_ret ?_
              refine ret_blk ?_
              refine ret_blk ?_
              refine ret_seq ?_
              replace h := retL l6 h
              refine ret_seq ?_
              refine ret_blk ?_
              refine ret_seq ?_
              obtain rfl := Option.some.inj h
              simp
            · have g62 := notF g60
              refine condF rfl g60 ?_
              obtain ⟨v63, q64, l6⟩ := bs l6
              refine last 61 0 [(0, .str s1), (6, .mptr 0 0), (7, .int .i64 ((i3 : Nat) : Int))] [[.baddr 119 0, .osl ⟨1, 5⟩ (v63.map cU)]] ?_ fun zz hs => ?_
              · refine st ?_
                simp
                have r66 := (strings_Builder_WriteByte_ok c12 buf2 v63 q64).frame [0] [[.baddr 119 0, .osl ⟨1, 5⟩ (buf2.map cU)]] (by simp)
                try simp [] at r66
                refine callRaw r66 (by simp []) rfl ?_
                simp
              refine blk_n ?_
              refine blk_n ?_
              refine seq_le ?_ hs
              have q65 : Rng .i64 (((i3 : Nat) : Int) + 1) := by simp only [Rng, inR]; omega
              try simp at q65
              refine last 61 0 [(0, .str s1), (6, .mptr 0 0), (7, .int .i64 ((i3 + 1 : Nat) : Int))] [[.baddr 119 0, .osl ⟨1, 5⟩ (v63.map cU)]] ?_ fun zz hs => ?_
              · refine st ?_
                simp [q65]
              exact ⟨(k8, v63, i3 + 1), hs, l6, by simp⟩
    · have c68 := ltF g9
      refine condF rfl g9 ?_
      refine factS 0 rfl fun f69 => ?_
      refine awp_exit ?_
      refine exit_seq ?_
      rcases o5 with o5 | o4
      · cases l6
      have q70 := Sum.inr.inj (Option.some.inj l6)
      replace h := elimR h
      have q70 := q70.symm
      refine exit_seq ?_
      refine exit_blk ?_
      refine seq_le (t := mkS 61 0 [] [[.baddr 119 0, .osl ⟨1, 5⟩ (o4.map cU)]]) ?_ (le_mkS (by simp [q70]))
      refine cut 61 0 [(2, .str ([] : List UInt8)), (3, .int .i64 0), (4, .int .i64 0), (5, .int .i64 4)] [[.baddr 119 0, .osl ⟨1, 5⟩ (o4.map cU)]] ?_ ?_
      · refine st ?_
        simp
      refine awp_ret ?_
      obtain rfl := Option.some.inj h
      simp
end Go.Proofs.Ythbjlmoaceaeeaa
set_option linter.unusedVariables false
set_option linter.unusedSimpArgs false
set_option maxRecDepth 100000
set_option maxHeartbeats 1000000
namespace Go.Proofs.Ythbjlmoaceaeeaa
open Go Go.Abs
theorem lexer_Symbol_ok (fuel : Nat) (s1 : (List UInt8)) (r : (List UInt8) × Bool) (h : M.lexer_Symbol fuel s1 = some r) : Pure Try.prog 112 [.str s1] (.tup [.str r.1, .bool r.2]) := by
  rw [M.lexer_Symbol] at h
  refine pure_of_body Try.func112 (by rfl) (by rfl) (by simp) (by simp) (by simp) ?_
  refine cut 29 0 [(0, .str s1)] [] ?_ ?_
  · refine st ?_
    simp
  refine awp_seq ?_
  obtain ⟨v2, q3, h⟩ := bs h
  refine cut 29 0 [(0, .str s1), (7, .bool v2)] [] ?_ ?_
  · refine st ?_
    simp
    have r43 := strings_HasPrefix_ok s1 [40, 42] v2 q3
    try simp [] at r43
    refine callPure r43 (by simp) rfl ?_
    simp
  rcases sp h with ⟨g4, h⟩ | ⟨g4, h⟩
  · refine condT rfl g4 ?_
    refine cut 29 0 [(2, .str ([] : List UInt8)), (3, .bool false)] [] ?_ ?_
    · refine st ?_
      simp
    refine awp_ret ?_
    refine ret_seq ?_
    obtain rfl := Option.some.inj h
    simp
  · refine condF rfl g4 ?_
    refine awp_skip ?_
    refine seq_eq ?_
    refine awp_seq ?_
    obtain ⟨l5, q6, h⟩ := bs h
    obtain ⟨q7, q8⟩ := lit_ok q6
    refine cut 29 0 [(0, .str s1), (8, .osl ⟨1, 9⟩ (l5.map cS)), (9, .int .i64 (l5.length : Int)), (10, .int .i64 0)] [] ?_ ?_
    · refine st ?_
      simp [q7, q8]
    refine awp_block ?_
    obtain ⟨o11, l12, h⟩ := bs h
    refine awp_inv (fun p : Nat × Nat => mkS 29 0 [(0, .str s1), (8, .osl ⟨1, 9⟩ (l5.map cS)), (9, .int .i64 (l5.length : Int)), (10, .int .i64 ((p.2 : Nat) : Int))] []) (fun p => M.lexer_Symbol_l1 s1 l5 p.1 p.2 = some o11) (fun p => p.1) (fuel, 0) l12 (le_mkS (by simp)) ?_
    rintro ⟨k13, i9⟩ l12
    dsimp only at l12 ⊢
    cases k13 with
    | zero =>
      rw [M.lexer_Symbol_l1] at l12; cases l12
    | succ k14 =>
      rw [M.lexer_Symbol_l1] at l12
      refine cut 29 0 [(0, .str s1), (8, .osl ⟨1, 9⟩ (l5.map cS)), (9, .int .i64 (l5.length : Int)), (10, .int .i64 ((i9 : Nat) : Int)), (11, .bool (ltI ((i9 : Nat) : Int) (l5.length : Int)))] [] ?_ ?_
      · refine st ?_
        simp
      refine awp_seq ?_
      rcases sp l12 with ⟨g15, l12⟩ | ⟨g15, l12⟩
      · have c16 := ltT g15
        refine condT rfl g15 ?_
        refine factL 8 rfl fun f17 => ?_
        rw [List.length_map] at f17
        refine awp_skip ?_
        refine seq_eq ?_
        refine awp_seq ?_
        refine awp_block ?_
        obtain ⟨x18, q19, l12⟩ := bs l12
        refine cut 29 0 [(0, .str s1), (5, .str x18), (8, .osl ⟨1, 9⟩ (l5.map cS)), (9, .int .i64 (l5.length : Int)), (10, .int .i64 ((i9 : Nat) : Int))] [] ?_ ?_
        · refine st ?_
          simp [q19]
        obtain ⟨v20, q21, l12⟩ := bs l12
        refine cut 29 0 [(0, .str s1), (5, .str x18), (8, .osl ⟨1, 9⟩ (l5.map cS)), (9, .int .i64 (l5.length : Int)), (10, .int .i64 ((i9 : Nat) : Int)), (16, .bool v20)] [] ?_ ?_
        · refine st ?_
          simp
          have r24 := strings_HasPrefix_ok s1 x18 v20 q21
          try simp [] at r24
          refine callPure r24 (by simp) rfl ?_
          simp
        rcases sp l12 with ⟨g22, l12⟩ | ⟨g22, l12⟩
        · refine condT rfl g22 ?_
          refine cut 29 0 [(2, .str x18), (3, .bool true)] [] ?_ ?_
          · refine st ?_
            simp
          refine awp_ret ?_
          refine ret_blk ?_
          refine ret_seq ?_
          replace h := retL l12 h
          refine ret_seq ?_
          refine ret_blk ?_
          refine ret_seq ?_
          obtain rfl := Option.some.inj h
          simp
        · refine condF rfl g22 ?_
          refine awp_skip ?_
          refine blk_n ?_
          refine seq_eq ?_
          have q23 : Rng .i64 (((i9 : Nat) : Int) + 1) := by simp only [Rng, inR]; omega
          try simp at q23
          refine last 29 0 [(0, .str s1), (8, .osl ⟨1, 9⟩ (l5.map cS)), (9, .int .i64 (l5.length : Int)), (10, .int .i64 ((i9 + 1 : Nat) : Int))] [] ?_ fun zz hs => ?_
          · refine st ?_
            simp [q23]
          exact ⟨(k14, i9 + 1), hs, l12, by simp⟩
      · have c25 := ltF g15
        refine condF rfl g15 ?_
        refine factL 8 rfl fun f26 => ?_
        rw [List.length_map] at f26
        refine awp_exit ?_
        refine exit_seq ?_
        rcases o11 with o11 | o10
        · cases l12
        have q27 := Sum.inr.inj (Option.some.inj l12)
        replace h := elimR h
        refine exit_seq ?_
        refine exit_blk ?_
        refine seq_le (t := mkS 29 0 [(0, .str s1)] []) ?_ (le_mkS (by simp []))
        refine awp_seq ?_
        obtain ⟨b35, q36, h⟩ := bs h
        refine cut 29 0 [(0, .str s1), (26, .bool b35)] [] ?_ ?_
        · rcases sp q36 with ⟨g28, q36⟩ | ⟨g28, q36⟩
          · have g29 := notT g28
            obtain ⟨c30, q31, q36⟩ := bs q36
            obtain ⟨v32, q33, q36⟩ := bs q36
            obtain rfl := Option.some.inj q36
            refine st ?_
            simp [g28, q31]
            have r42 := strings_IndexByte_ok [40, 41, 44, 59, 58, 61, 124, 95, 46, 42, 43, 45, 60, 94, 126] c30 v32 q33
            try simp [g28, q31] at r42
            refine callPure r42 (by simp) rfl ?_
            simp [g28, q31]
          · have g34 := notF g28
            obtain rfl := Option.some.inj q36
            refine st ?_
            simp [g28]
        rcases sp h with ⟨g37, h⟩ | ⟨g37, h⟩
        · refine condT rfl g37 ?_
          obtain ⟨s38, q39, h⟩ := bs h
          obtain ⟨q40, q41⟩ := subC_ok q39
          try simp at q40
          try simp at q41
          refine cut 29 0 [(2, .str s38), (3, .bool true)] [] ?_ ?_
          · refine st ?_
            simp [q40, q41]
          refine awp_ret ?_
          refine ret_seq ?_
          obtain rfl := Option.some.inj h
          simp
        · refine condF rfl g37 ?_
          refine awp_skip ?_
          refine seq_eq ?_
          refine cut 29 0 [(2, .str ([] : List UInt8)), (3, .bool false)] [] ?_ ?_
          · refine st ?_
            simp
          refine awp_ret ?_
          obtain rfl := Option.some.inj h
          simp
end Go.Proofs.Ythbjlmoaceaeeaa
set_option linter.unusedVariables false
set_option linter.unusedSimpArgs false
set_option maxRecDepth 100000
set_option maxHeartbeats 1000000
namespace Go.Proofs.Ythbjlmoaceaeeaa
open Go Go.Abs
theorem lexer_scanner_token_ok (fuel : Nat) (w1 : Lexer.scanner) (r : Api.Token × Int × Int × Lexer.scanner) (h : M.lexer_scanner_token fuel w1 = some r) : Raw Try.prog 63 [.mptr 0 0] [[.str w1.s, .int .i64 w1.at_]] (.tup [.agg [.int .i64 r.1.Kind, .str r.1.Text, .int .i64 r.1.At.Line, .int .i64 r.1.At.Column], .int .i64 r.2.1, .int .i64 r.2.2.1]) [[.str r.2.2.2.s, .int .i64 r.2.2.2.at_]] := by
  rw [M.lexer_scanner_token] at h
  refine raw_of_bodyB Try.func63 (by rfl) (by rfl) (by simp) (by simp) ?_
  refine cut 188 1 [(1, .mptr 1 0), (2, .mptr 2 0)] [[.str w1.s, .int .i64 w1.at_], [.mptr 0 0], [.int .i64 0, .str ([] : List UInt8), .int .i64 0, .int .i64 0]] ?_ ?_
  · refine st ?_
    simp
  obtain ⟨s2, q3, h⟩ := bs h
  obtain ⟨q4, q5⟩ := subC_ok q3
  try simp at q4
  try simp at q5
  refine cut 188 1 [(1, .mptr 1 0), (2, .mptr 2 0), (5, .str s2)] [[.str w1.s, .int .i64 w1.at_], [.mptr 0 0], [.int .i64 0, .str ([] : List UInt8), .int .i64 0, .int .i64 0]] ?_ ?_
  · refine awp_region_draw [] mixed (n := 188) rfl (by decide) ?_
    simp [q4, q5]
  refine cut 188 1 [(1, .mptr 1 0), (2, .mptr 2 0), (5, .str s2), (6, .fn (.func 103) [] [.mptr 1 0])] [[.str w1.s, .int .i64 w1.at_], [.mptr 0 0], [.int .i64 0, .str ([] : List UInt8), .int .i64 0, .int .i64 0]] ?_ ?_
  · refine st ?_
    simp
  refine cut 188 1 [(2, .mptr 2 0), (5, .str s2), (6, .fn (.func 103) [] [.mptr 1 0]), (7, .fn (.func 104) [] [.mptr 1 0])] [[.str w1.s, .int .i64 w1.at_], [.mptr 0 0], [.int .i64 0, .str ([] : List UInt8), .int .i64 0, .int .i64 0]] ?_ ?_
  · refine st ?_
    simp
  obtain ⟨c6, q7, h⟩ := bs h
  refine cut 188 1 [(2, .mptr 2 0), (5, .str s2), (6, .fn (.func 103) [] [.mptr 1 0]), (7, .fn (.func 104) [] [.mptr 1 0]), (8, .int .u8 (c6.toNat : Int))] [[.str w1.s, .int .i64 w1.at_], [.mptr 0 0], [.int .i64 0, .str ([] : List UInt8), .int .i64 0, .int .i64 0]] ?_ ?_
  · refine st ?_
    simp [q7]
  refine awp_seq ?_
  refine awp_block ?_
  obtain ⟨b13, q14, h⟩ := bs h
  refine cut 188 1 [(2, .mptr 2 0), (5, .str s2), (6, .fn (.func 103) [] [.mptr 1 0]), (7, .fn (.func 104) [] [.mptr 1 0]), (8, .int .u8 (c6.toNat : Int)), (33, .bool b13)] [[.str w1.s, .int .i64 w1.at_], [.mptr 0 0], [.int .i64 0, .str ([] : List UInt8), .int .i64 0, .int .i64 0]] ?_ ?_
  · obtain ⟨v8, q9, q14⟩ := bs q14
    rcases sp q14 with ⟨g10, q14⟩ | ⟨g10, q14⟩
    · obtain rfl := Option.some.inj q14
      refine st ?_
      simp [g10]
      have r142 := lexer_small_ok c6 v8 q9
      try simp [g10] at r142
      refine callPure r142 (by simp) rfl ?_
      simp [g10]
    · obtain ⟨v11, q12, q14⟩ := bs q14
      obtain rfl := Option.some.inj q14
      refine st ?_
      simp [g10]
      have r143 := lexer_small_ok c6 v8 q9
      try simp [g10] at r143
      refine callPure r143 (by simp) rfl ?_
      simp [g10]
      have r144 := lexer_capital_ok c6 v11 q12
      try simp [g10] at r144
      refine callPure r144 (by simp) rfl ?_
      simp [g10]
  rcases sp h with ⟨g15, h⟩ | ⟨g15, h⟩
  · refine condT rfl g15 ?_
    obtain ⟨v16, q17, h⟩ := bs h
    refine cut 188 1 [(2, .mptr 2 0), (5, .str s2), (6, .fn (.func 103) [] [.mptr 1 0]), (7, .fn (.func 104) [] [.mptr 1 0]), (8, .int .u8 (c6.toNat : Int)), (9, .int .i64 v16)] [[.str w1.s, .int .i64 w1.at_], [.mptr 0 0], [.int .i64 0, .str ([] : List UInt8), .int .i64 0, .int .i64 0]] ?_ ?_
    · refine st ?_
      simp
      have r45 := lexer_length_inner_ok fuel s2 v16 q17
      try simp [] at r45
      refine callPure r45 (by simp) rfl ?_
      simp
    obtain ⟨s18, q19, h⟩ := bs h
    obtain ⟨q20, q21⟩ := subC_ok q19
    try simp at q20
    try simp at q21
    refine cut 188 1 [(2, .mptr 2 0), (6, .fn (.func 103) [] [.mptr 1 0]), (7, .fn (.func 104) [] [.mptr 1 0]), (8, .int .u8 (c6.toNat : Int)), (9, .int .i64 v16), (10, .str s18)] [[.str w1.s, .int .i64 w1.at_], [.mptr 0 0], [.int .i64 0, .str ([] : List UInt8), .int .i64 0, .int .i64 0]] ?_ ?_
    · refine st ?_
      simp [q20, q21]
    refine awp_seq ?_
    refine awp_block ?_
    obtain ⟨v22, q23, h⟩ := bs h
    refine cut 188 1 [(2, .mptr 2 0), (6, .fn (.func 103) [] [.mptr 1 0]), (7, .fn (.func 104) [] [.mptr 1 0]), (8, .int .u8 (c6.toNat : Int)), (9, .int .i64 v16), (10, .str s18), (45, .bool v22)] [[.str w1.s, .int .i64 w1.at_], [.mptr 0 0], [.int .i64 0, .str ([] : List UInt8), .int .i64 0, .int .i64 0]] ?_ ?_
    · refine st ?_
      simp
      have r44 := lexer_Keyword_ok s18 v22 q23
      try simp [] at r44
      refine callPure r44 (by simp) rfl ?_
      simp
    rcases sp h with ⟨g24, h⟩ | ⟨g24, h⟩
    · refine condT rfl g24 ?_
      obtain ⟨v25, q26, h⟩ := bs h
      refine cut 188 1 [(2, .mptr 2 0), (3, .int .i64 v25.2.1), (4, .int .i64 v25.2.2.1)] [[.str v25.2.2.2.s, .int .i64 v25.2.2.2.at_], [.mptr 0 0], [.int .i64 v25.1.Kind, .str v25.1.Text, .int .i64 v25.1.At.Line, .int .i64 v25.1.At.Column]] ?_ ?_
      · refine st ?_
        simp
        have r27 := (lexer_scanner_token_1_ok 6 v16 s18 w1 v25 q26).frame [1, 0] [[.str w1.s, .int .i64 w1.at_], [.mptr 0 0], [.int .i64 0, .str ([] : List UInt8), .int .i64 0, .int .i64 0]] (by simp)
        try simp [] at r27
        refine callRaw r27 (by simp []) rfl ?_
        simp
      refine awp_ret ?_
      refine ret_blk ?_
      refine ret_seq ?_
      refine ret_blk ?_
      refine ret_seq ?_
      obtain rfl := Option.some.inj h
      simp
    · refine condF rfl g24 ?_
      refine cut 188 1 [(2, .mptr 2 0), (6, .fn (.func 103) [] [.mptr 1 0]), (7, .fn (.func 104) [] [.mptr 1 0]), (8, .int .u8 (c6.toNat : Int)), (9, .int .i64 v16), (10, .str s18), (55, .bool (ltI 24 v16))] [[.str w1.s, .int .i64 w1.at_], [.mptr 0 0], [.int .i64 0, .str ([] : List UInt8), .int .i64 0, .int .i64 0]] ?_ ?_
      · refine st ?_
        simp
      rcases sp h with ⟨g28, h⟩ | ⟨g28, h⟩
      · have c29 := ltT g28
        refine condT rfl g28 ?_
        obtain ⟨v30, q31, h⟩ := bs h
        refine cut 188 1 [(2, .mptr 2 0), (3, .int .i64 v30.2.1), (4, .int .i64 v30.2.2)] [[.str w1.s, .int .i64 w1.at_], [.mptr 0 0], [.int .i64 v30.1.Kind, .str v30.1.Text, .int .i64 v30.1.At.Line, .int .i64 v30.1.At.Column]] ?_ ?_
        · refine st ?_
          simp
          have r32 := (lexer_scanner_token_2_ok 0 5 w1 v30 q31).frame [1, 0] [[.str w1.s, .int .i64 w1.at_], [.mptr 0 0], [.int .i64 0, .str ([] : List UInt8), .int .i64 0, .int .i64 0]] (by simp)
          try simp [] at r32
          refine callRaw r32 (by simp []) rfl ?_
          simp
        refine awp_ret ?_
        refine ret_blk ?_
        refine ret_seq ?_
        refine ret_blk ?_
        refine ret_seq ?_
        obtain rfl := Option.some.inj h
        simp
      · have c33 := ltF g28
        refine condF rfl g28 ?_
        obtain ⟨v34, q35, h⟩ := bs h
        refine cut 188 1 [(2, .mptr 2 0), (6, .fn (.func 103) [] [.mptr 1 0]), (9, .int .i64 v16), (10, .str s18), (63, .bool v34)] [[.str w1.s, .int .i64 w1.at_], [.mptr 0 0], [.int .i64 0, .str ([] : List UInt8), .int .i64 0, .int .i64 0]] ?_ ?_
        · refine st ?_
          simp
          have r43 := lexer_small_ok c6 v34 q35
          try simp [] at r43
          refine callPure r43 (by simp) rfl ?_
          simp
        rcases sp h with ⟨g36, h⟩ | ⟨g36, h⟩
        · refine condT rfl g36 ?_
          obtain ⟨v37, q38, h⟩ := bs h
          refine cut 188 1 [(2, .mptr 2 0), (3, .int .i64 v37.2.1), (4, .int .i64 v37.2.2.1)] [[.str v37.2.2.2.s, .int .i64 v37.2.2.2.at_], [.mptr 0 0], [.int .i64 v37.1.Kind, .str v37.1.Text, .int .i64 v37.1.At.Line, .int .i64 v37.1.At.Column]] ?_ ?_
          · refine st ?_
            simp
            have r39 := (lexer_scanner_token_1_ok 1 v16 s18 w1 v37 q38).frame [1, 0] [[.str w1.s, .int .i64 w1.at_], [.mptr 0 0], [.int .i64 0, .str ([] : List UInt8), .int .i64 0, .int .i64 0]] (by simp)
            try simp [] at r39
            refine callRaw r39 (by simp []) rfl ?_
            simp
          refine awp_ret ?_
          refine ret_blk ?_
          refine ret_seq ?_
          refine ret_blk ?_
          refine ret_seq ?_
          obtain rfl := Option.some.inj h
          simp
        · refine condF rfl g36 ?_
          refine awp_skip ?_
          refine blk_n ?_
          refine seq_eq ?_
          obtain ⟨v40, q41, h⟩ := bs h
          refine cut 188 1 [(2, .mptr 2 0), (3, .int .i64 v40.2.1), (4, .int .i64 v40.2.2.1)] [[.str v40.2.2.2.s, .int .i64 v40.2.2.2.at_], [.mptr 0 0], [.int .i64 v40.1.Kind, .str v40.1.Text, .int .i64 v40.1.At.Line, .int .i64 v40.1.At.Column]] ?_ ?_
          · refine st ?_
            simp
            have r42 := (lexer_scanner_token_1_ok 2 v16 s18 w1 v40 q41).frame [1, 0] [[.str w1.s, .int .i64 w1.at_], [.mptr 0 0], [.int .i64 0, .str ([] : List UInt8), .int .i64 0, .int .i64 0]] (by simp)
            try simp [] at r42
            refine callRaw r42 (by simp []) rfl ?_
            simp
          refine awp_ret ?_
          refine ret_blk ?_
          refine ret_seq ?_
          obtain rfl := Option.some.inj h
          simp
  · refine condF rfl g15 ?_
    refine cut 188 1 [(2, .mptr 2 0), (5, .str s2), (6, .fn (.func 103) [] [.mptr 1 0]), (7, .fn (.func 104) [] [.mptr 1 0]), (8, .int .u8 (c6.toNat : Int)), (80, .bool (eqI (c6.toNat : Int) 39))] [[.str w1.s, .int .i64 w1.at_], [.mptr 0 0], [.int .i64 0, .str ([] : List UInt8), .int .i64 0, .int .i64 0]] ?_ ?_
    · refine st ?_
      simp
    rcases sp h with ⟨g46, h⟩ | ⟨g46, h⟩
    · have c47 := eqT g46
      refine condT rfl g46 ?_
      refine awp_seq ?_
      obtain ⟨b57, q58, h⟩ := bs h
      refine cut 188 1 [(2, .mptr 2 0), (5, .str s2), (6, .fn (.func 103) [] [.mptr 1 0]), (7, .fn (.func 104) [] [.mptr 1 0]), (91, .bool b57)] [[.str w1.s, .int .i64 w1.at_], [.mptr 0 0], [.int .i64 0, .str ([] : List UInt8), .int .i64 0, .int .i64 0]] ?_ ?_
      · rcases sp q58 with ⟨g48, q58⟩ | ⟨g48, q58⟩
        · have c49 := ltT g48
          refine factS 5 rfl fun f50 => ?_
          obtain rfl := Option.some.inj q58
          refine st ?_
          simp [g48]
        · have c51 := ltF g48
          refine factS 5 rfl fun f52 => ?_
          obtain ⟨c53, q54, q58⟩ := bs q58
          obtain ⟨v55, q56, q58⟩ := bs q58
          obtain rfl := Option.some.inj q58
          refine st ?_
          simp [g48, q54]
          have r88 := lexer_small_ok c53 v55 q56
          try simp [g48, q54] at r88
          refine callPure r88 (by simp) rfl ?_
          simp [g48, q54]
      rcases sp h with ⟨g59, h⟩ | ⟨g59, h⟩
      · refine condT rfl g59 ?_
        obtain ⟨v60, q61, h⟩ := bs h
        refine cut 188 1 [(2, .mptr 2 0), (3, .int .i64 v60.2.1), (4, .int .i64 v60.2.2)] [[.str w1.s, .int .i64 w1.at_], [.mptr 0 0], [.int .i64 v60.1.Kind, .str v60.1.Text, .int .i64 v60.1.At.Line, .int .i64 v60.1.At.Column]] ?_ ?_
        · refine st ?_
          simp
          have r62 := (lexer_scanner_token_2_ok 0 3 w1 v60 q61).frame [1, 0] [[.str w1.s, .int .i64 w1.at_], [.mptr 0 0], [.int .i64 0, .str ([] : List UInt8), .int .i64 0, .int .i64 0]] (by simp)
          try simp [] at r62
          refine callRaw r62 (by simp []) rfl ?_
          simp
        refine awp_ret ?_
        refine ret_seq ?_
        refine ret_blk ?_
        refine ret_seq ?_
        obtain rfl := Option.some.inj h
        simp
      · refine condF rfl g59 ?_
        refine awp_skip ?_
        refine seq_eq ?_
        obtain ⟨s63, q64, h⟩ := bs h
        obtain ⟨q65, q66⟩ := subC_ok q64
        try simp at q65
        try simp at q66
        obtain ⟨v67, q68, h⟩ := bs h
        obtain ⟨n69, q70, h⟩ := bs h
        obtain ⟨q71, q72⟩ := chk_ok q70
        try simp at q71
        try simp at q72
        have c73 := q71; simp only [Rng, inR] at c73
        refine cut 188 1 [(2, .mptr 2 0), (5, .str s2), (6, .fn (.func 103) [] [.mptr 1 0]), (7, .fn (.func 104) [] [.mptr 1 0]), (11, .int .i64 n69)] [[.str w1.s, .int .i64 w1.at_], [.mptr 0 0], [.int .i64 0, .str ([] : List UInt8), .int .i64 0, .int .i64 0]] ?_ ?_
        · refine st ?_
          simp [q65, q66, q71, q72]
          have r87 := lexer_length_inner_ok fuel s63 v67 q68
          try simp [q65, q66, q71, q72] at r87
          refine callPure r87 (by simp) rfl ?_
          simp [q65, q66, q71, q72]
        refine awp_seq ?_
        refine cut 188 1 [(2, .mptr 2 0), (5, .str s2), (6, .fn (.func 103) [] [.mptr 1 0]), (7, .fn (.func 104) [] [.mptr 1 0]), (11, .int .i64 n69), (102, .bool (ltI 24 n69))] [[.str w1.s, .int .i64 w1.at_], [.mptr 0 0], [.int .i64 0, .str ([] : List UInt8), .int .i64 0, .int .i64 0]] ?_ ?_
        · refine st ?_
          simp
        rcases sp h with ⟨g74, h⟩ | ⟨g74, h⟩
        · have c75 := ltT g74
          refine condT rfl g74 ?_
          obtain ⟨v76, q77, h⟩ := bs h
          refine cut 188 1 [(2, .mptr 2 0), (3, .int .i64 v76.2.1), (4, .int .i64 v76.2.2)] [[.str w1.s, .int .i64 w1.at_], [.mptr 0 0], [.int .i64 v76.1.Kind, .str v76.1.Text, .int .i64 v76.1.At.Line, .int .i64 v76.1.At.Column]] ?_ ?_
          · refine st ?_
            simp
            have r78 := (lexer_scanner_token_2_ok 0 5 w1 v76 q77).frame [1, 0] [[.str w1.s, .int .i64 w1.at_], [.mptr 0 0], [.int .i64 0, .str ([] : List UInt8), .int .i64 0, .int .i64 0]] (by simp)
            try simp [] at r78
            refine callRaw r78 (by simp []) rfl ?_
            simp
          refine awp_ret ?_
          refine ret_seq ?_
          refine ret_blk ?_
          refine ret_seq ?_
          obtain rfl := Option.some.inj h
          simp
        · have c79 := ltF g74
          refine condF rfl g74 ?_
          refine awp_skip ?_
          refine seq_eq ?_
          obtain ⟨s80, q81, h⟩ := bs h
          obtain ⟨q82, q83⟩ := subC_ok q81
          try simp at q82
          try simp at q83
          obtain ⟨v84, q85, h⟩ := bs h
          refine cut 188 1 [(2, .mptr 2 0), (3, .int .i64 v84.2.1), (4, .int .i64 v84.2.2.1)] [[.str v84.2.2.2.s, .int .i64 v84.2.2.2.at_], [.mptr 0 0], [.int .i64 v84.1.Kind, .str v84.1.Text, .int .i64 v84.1.At.Line, .int .i64 v84.1.At.Column]] ?_ ?_
          · refine st ?_
            simp [q82, q83]
            have r86 := (lexer_scanner_token_1_ok 3 n69 s80 w1 v84 q85).frame [1, 0] [[.str w1.s, .int .i64 w1.at_], [.mptr 0 0], [.int .i64 0, .str ([] : List UInt8), .int .i64 0, .int .i64 0]] (by simp)
            try simp [q82, q83] at r86
            refine callRaw r86 (by simp [q82, q83]) rfl ?_
            simp [q82, q83]
          refine awp_ret ?_
          refine ret_blk ?_
          refine ret_seq ?_
          obtain rfl := Option.some.inj h
          simp
    · have c89 := eqF g46
      refine condF rfl g46 ?_
      obtain ⟨v90, q91, h⟩ := bs h
      refine cut 188 1 [(2, .mptr 2 0), (5, .str s2), (6, .fn (.func 103) [] [.mptr 1 0]), (7, .fn (.func 104) [] [.mptr 1 0]), (8, .int .u8 (c6.toNat : Int)), (117, .bool v90)] [[.str w1.s, .int .i64 w1.at_], [.mptr 0 0], [.int .i64 0, .str ([] : List UInt8), .int .i64 0, .int .i64 0]] ?_ ?_
      · refine st ?_
        simp
        have r141 := lexer_digit_ok c6 v90 q91
        try simp [] at r141
        refine callPure r141 (by simp) rfl ?_
        simp
      rcases sp h with ⟨g92, h⟩ | ⟨g92, h⟩
      · refine condT rfl g92 ?_
        obtain ⟨v93, q94, h⟩ := bs h
        refine cut 188 1 [(2, .mptr 2 0), (5, .str s2), (6, .fn (.func 103) [] [.mptr 1 0]), (7, .fn (.func 104) [] [.mptr 1 0]), (12, .int .i64 v93)] [[.str w1.s, .int .i64 w1.at_], [.mptr 0 0], [.int .i64 0, .str ([] : List UInt8), .int .i64 0, .int .i64 0]] ?_ ?_
        · refine st ?_
          simp
          have r113 := lexer_length_digit_ok fuel s2 v93 q94
          try simp [] at r113
          refine callPure r113 (by simp) rfl ?_
          simp
        refine awp_seq ?_
        obtain ⟨s95, q96, h⟩ := bs h
        obtain ⟨q97, q98⟩ := subC_ok q96
        try simp at q97
        try simp at q98
        obtain ⟨v99, q100, h⟩ := bs h
        refine cut 188 1 [(2, .mptr 2 0), (5, .str s2), (6, .fn (.func 103) [] [.mptr 1 0]), (7, .fn (.func 104) [] [.mptr 1 0]), (12, .int .i64 v93), (13, .int .i64 v99)] [[.str w1.s, .int .i64 w1.at_], [.mptr 0 0], [.int .i64 0, .str ([] : List UInt8), .int .i64 0, .int .i64 0]] ?_ ?_
        · refine st ?_
          simp [q97, q98]
          have r112 := lexer_number_ok fuel s95 v99 q100
          try simp [q97, q98] at r112
          refine callPure r112 (by simp) rfl ?_
          simp [q97, q98]
        refine cut 188 1 [(2, .mptr 2 0), (5, .str s2), (6, .fn (.func 103) [] [.mptr 1 0]), (7, .fn (.func 104) [] [.mptr 1 0]), (12, .int .i64 v93), (13, .int .i64 v99), (127, .bool (!(eqI v99 0)))] [[.str w1.s, .int .i64 w1.at_], [.mptr 0 0], [.int .i64 0, .str ([] : List UInt8), .int .i64 0, .int .i64 0]] ?_ ?_
        · refine st ?_
          simp
        rcases sp h with ⟨g101, h⟩ | ⟨g101, h⟩
        · have g102 := notT g101
          have c103 := eqF g102
          refine condT rfl g101 ?_
          obtain ⟨v104, q105, h⟩ := bs h
          refine cut 188 1 [(2, .mptr 2 0), (3, .int .i64 v104.2.1), (4, .int .i64 v104.2.2)] [[.str w1.s, .int .i64 w1.at_], [.mptr 0 0], [.int .i64 v104.1.Kind, .str v104.1.Text, .int .i64 v104.1.At.Line, .int .i64 v104.1.At.Column]] ?_ ?_
          · refine st ?_
            simp
            have r106 := (lexer_scanner_token_2_ok 0 v99 w1 v104 q105).frame [1, 0] [[.str w1.s, .int .i64 w1.at_], [.mptr 0 0], [.int .i64 0, .str ([] : List UInt8), .int .i64 0, .int .i64 0]] (by simp)
            try simp [] at r106
            refine callRaw r106 (by simp []) rfl ?_
            simp
          refine awp_ret ?_
          refine ret_seq ?_
          refine ret_blk ?_
          refine ret_seq ?_
          obtain rfl := Option.some.inj h
          simp
        · have g107 := notF g101
          have c108 := eqT g107
          refine condF rfl g101 ?_
          refine awp_skip ?_
          refine seq_eq ?_
          obtain ⟨v109, q110, h⟩ := bs h
          refine cut 188 1 [(2, .mptr 2 0), (3, .int .i64 v109.2.1), (4, .int .i64 v109.2.2.1)] [[.str v109.2.2.2.s, .int .i64 v109.2.2.2.at_], [.mptr 0 0], [.int .i64 v109.1.Kind, .str v109.1.Text, .int .i64 v109.1.At.Line, .int .i64 v109.1.At.Column]] ?_ ?_
          · refine st ?_
            simp [q97, q98]
            have r111 := (lexer_scanner_token_1_ok 4 v93 s95 w1 v109 q110).frame [1, 0] [[.str w1.s, .int .i64 w1.at_], [.mptr 0 0], [.int .i64 0, .str ([] : List UInt8), .int .i64 0, .int .i64 0]] (by simp)
            try simp [q97, q98] at r111
            refine callRaw r111 (by simp [q97, q98]) rfl ?_
            simp [q97, q98]
          refine awp_ret ?_
          refine ret_blk ?_
          refine ret_seq ?_
          obtain rfl := Option.some.inj h
          simp
      · refine condF rfl g92 ?_
        refine cut 188 1 [(2, .mptr 2 0), (5, .str s2), (6, .fn (.func 103) [] [.mptr 1 0]), (7, .fn (.func 104) [] [.mptr 1 0]), (143, .bool (eqI (c6.toNat : Int) 34))] [[.str w1.s, .int .i64 w1.at_], [.mptr 0 0], [.int .i64 0, .str ([] : List UInt8), .int .i64 0, .int .i64 0]] ?_ ?_
        · refine st ?_
          simp
        rcases sp h with ⟨g114, h⟩ | ⟨g114, h⟩
        · have c115 := eqT g114
          refine condT rfl g114 ?_
          obtain ⟨v116, q117, h⟩ := bs h
          refine cut 188 1 [(2, .mptr 2 0), (6, .fn (.func 103) [] [.mptr 1 0]), (7, .fn (.func 104) [] [.mptr 1 0]), (14, .str v116.1), (15, .int .i64 v116.2.1), (16, .int .i64 v116.2.2.1), (17, .int .i64 v116.2.2.2)] [[.str w1.s, .int .i64 w1.at_], [.mptr 0 0], [.int .i64 0, .str ([] : List UInt8), .int .i64 0, .int .i64 0]] ?_ ?_
          · refine st ?_
            simp
            have r129 := lexer_literal_ok fuel s2 v116 q117
            try simp [] at r129
            refine callPure r129 (by simp) rfl ?_
            simp
          refine awp_seq ?_
          refine cut 188 1 [(2, .mptr 2 0), (6, .fn (.func 103) [] [.mptr 1 0]), (7, .fn (.func 104) [] [.mptr 1 0]), (14, .str v116.1), (15, .int .i64 v116.2.1), (16, .int .i64 v116.2.2.1), (17, .int .i64 v116.2.2.2), (154, .bool (!(eqI v116.2.2.2 0)))] [[.str w1.s, .int .i64 w1.at_], [.mptr 0 0], [.int .i64 0, .str ([] : List UInt8), .int .i64 0, .int .i64 0]] ?_ ?_
          · refine st ?_
            simp
          rcases sp h with ⟨g118, h⟩ | ⟨g118, h⟩
          · have g119 := notT g118
            have c120 := eqF g119
            refine condT rfl g118 ?_
            obtain ⟨v121, q122, h⟩ := bs h
            refine cut 188 1 [(2, .mptr 2 0), (3, .int .i64 v121.2.1), (4, .int .i64 v121.2.2)] [[.str w1.s, .int .i64 w1.at_], [.mptr 0 0], [.int .i64 v121.1.Kind, .str v121.1.Text, .int .i64 v121.1.At.Line, .int .i64 v121.1.At.Column]] ?_ ?_
            · refine st ?_
              simp
              have r123 := (lexer_scanner_token_2_ok v116.2.2.1 v116.2.2.2 w1 v121 q122).frame [1, 0] [[.str w1.s, .int .i64 w1.at_], [.mptr 0 0], [.int .i64 0, .str ([] : List UInt8), .int .i64 0, .int .i64 0]] (by simp)
              try simp [] at r123
              refine callRaw r123 (by simp []) rfl ?_
              simp
            refine awp_ret ?_
            refine ret_seq ?_
            refine ret_blk ?_
            refine ret_seq ?_
            obtain rfl := Option.some.inj h
            simp
          · have g124 := notF g118
            have c125 := eqT g124
            refine condF rfl g118 ?_
            refine awp_skip ?_
            refine seq_eq ?_
            obtain ⟨v126, q127, h⟩ := bs h
            refine cut 188 1 [(2, .mptr 2 0), (3, .int .i64 v126.2.1), (4, .int .i64 v126.2.2.1)] [[.str v126.2.2.2.s, .int .i64 v126.2.2.2.at_], [.mptr 0 0], [.int .i64 v126.1.Kind, .str v126.1.Text, .int .i64 v126.1.At.Line, .int .i64 v126.1.At.Column]] ?_ ?_
            · refine st ?_
              simp
              have r128 := (lexer_scanner_token_1_ok 5 v116.2.1 v116.1 w1 v126 q127).frame [1, 0] [[.str w1.s, .int .i64 w1.at_], [.mptr 0 0], [.int .i64 0, .str ([] : List UInt8), .int .i64 0, .int .i64 0]] (by simp)
              try simp [] at r128
              refine callRaw r128 (by simp []) rfl ?_
              simp
            refine awp_ret ?_
            refine ret_blk ?_
            refine ret_seq ?_
            obtain rfl := Option.some.inj h
            simp
        · have c130 := eqF g114
          refine condF rfl g114 ?_
          refine awp_skip ?_
          refine blk_n ?_
          refine seq_eq ?_
          refine awp_seq ?_
          obtain ⟨v131, q132, h⟩ := bs h
          refine cut 188 1 [(2, .mptr 2 0), (6, .fn (.func 103) [] [.mptr 1 0]), (7, .fn (.func 104) [] [.mptr 1 0]), (18, .str v131.1), (19, .bool v131.2)] [[.str w1.s, .int .i64 w1.at_], [.mptr 0 0], [.int .i64 0, .str ([] : List UInt8), .int .i64 0, .int .i64 0]] ?_ ?_
          · refine st ?_
            simp
            have r140 := lexer_Symbol_ok fuel s2 v131 q132
            try simp [] at r140
            refine callPure r140 (by simp) rfl ?_
            simp
          refine cut 188 1 [(2, .mptr 2 0), (6, .fn (.func 103) [] [.mptr 1 0]), (7, .fn (.func 104) [] [.mptr 1 0]), (18, .str v131.1), (174, .bool v131.2)] [[.str w1.s, .int .i64 w1.at_], [.mptr 0 0], [.int .i64 0, .str ([] : List UInt8), .int .i64 0, .int .i64 0]] ?_ ?_
          · refine st ?_
            simp
          rcases sp h with ⟨g133, h⟩ | ⟨g133, h⟩
          · refine condT rfl g133 ?_
            obtain ⟨v134, q135, h⟩ := bs h
            refine cut 188 1 [(2, .mptr 2 0), (3, .int .i64 v134.2.1), (4, .int .i64 v134.2.2.1)] [[.str v134.2.2.2.s, .int .i64 v134.2.2.2.at_], [.mptr 0 0], [.int .i64 v134.1.Kind, .str v134.1.Text, .int .i64 v134.1.At.Line, .int .i64 v134.1.At.Column]] ?_ ?_
            · refine st ?_
              simp
              have r136 := (lexer_scanner_token_1_ok 7 (v131.1.length : Int) v131.1 w1 v134 q135).frame [1, 0] [[.str w1.s, .int .i64 w1.at_], [.mptr 0 0], [.int .i64 0, .str ([] : List UInt8), .int .i64 0, .int .i64 0]] (by simp)
              try simp [] at r136
              refine callRaw r136 (by simp []) rfl ?_
              simp
            refine awp_ret ?_
            refine ret_seq ?_
            obtain rfl := Option.some.inj h
            simp
          · refine condF rfl g133 ?_
            refine awp_skip ?_
            refine seq_eq ?_
            obtain ⟨v137, q138, h⟩ := bs h
            refine cut 188 1 [(2, .mptr 2 0), (3, .int .i64 v137.2.1), (4, .int .i64 v137.2.2)] [[.str w1.s, .int .i64 w1.at_], [.mptr 0 0], [.int .i64 v137.1.Kind, .str v137.1.Text, .int .i64 v137.1.At.Line, .int .i64 v137.1.At.Column]] ?_ ?_
            · refine st ?_
              simp
              have r139 := (lexer_scanner_token_2_ok 0 3 w1 v137 q138).frame [1, 0] [[.str w1.s, .int .i64 w1.at_], [.mptr 0 0], [.int .i64 0, .str ([] : List UInt8), .int .i64 0, .int .i64 0]] (by simp)
              try simp [] at r139
              refine callRaw r139 (by simp []) rfl ?_
              simp
            refine awp_ret ?_
            obtain rfl := Option.some.inj h
            simp
end Go.Proofs.Ythbjlmoaceaeeaa
set_option linter.unusedVariables false
set_option linter.unusedSimpArgs false
set_option maxRecDepth 100000
set_option maxHeartbeats 1000000
namespace Go.Proofs.Ythbjlmoaceaeeaa
open Go Go.Abs
theorem lexer_Tokens_ok (fuel : Nat) (a1 : (List UInt8)) (r : (List Api.Token) × Api.Pos × Int) (h : M.lexer_Tokens fuel a1 = some r) : Pure Try.prog 30 [.str a1] (.tup [.sl (r.1.map Api.Token.c), .agg [.int .i64 r.2.1.Line, .int .i64 r.2.1.Column], .int .i64 r.2.2]) := by
  rw [M.lexer_Tokens] at h
  refine pure_of_body Try.func30 (by rfl) (by rfl) (by simp) (by simp) (by simp) ?_
  refine cut 71 0 [(0, .str a1), (3, .mptr 0 0)] [[.int .i64 0, .int .i64 0]] ?_ ?_
  · refine st ?_
    simp
  refine awp_seq ?_
  refine cut 71 0 [(0, .str a1), (3, .mptr 0 0), (14, .bool (ltI 16384 (a1.length : Int)))] [[.int .i64 0, .int .i64 0]] ?_ ?_
  · refine st ?_
    simp
  rcases sp h with ⟨g2, h⟩ | ⟨g2, h⟩
  · have c3 := ltT g2
    refine condT rfl g2 ?_
    refine factS 0 rfl fun f4 => ?_
    refine cut 71 0 [(2, .osl ⟨4, 75⟩ (([] : List Api.Token).map Api.Token.c)), (3, .mptr 0 0), (4, .int .i64 5)] [[.int .i64 0, .int .i64 0]] ?_ ?_
    · refine st ?_
      simp
    refine awp_ret ?_
    refine ret_seq ?_
    obtain rfl := Option.some.inj h
    simp
  · have c5 := ltF g2
    refine condF rfl g2 ?_
    refine factS 0 rfl fun f6 => ?_
    refine awp_skip ?_
    refine seq_eq ?_
    refine cut 71 0 [(0, .str a1), (3, .mptr 0 0), (5, .mptr 1 0)] [[.int .i64 0, .int .i64 0], [.str a1, .int .i64 0]] ?_ ?_
    · refine st ?_
      simp
    refine cut 71 0 [(0, .str a1), (3, .mptr 0 0), (5, .mptr 1 0), (6, .osl ⟨4, 75⟩ (([] : List Api.Token).map Api.Token.c))] [[.int .i64 0, .int .i64 0], [.str a1, .int .i64 0]] ?_ ?_
    · refine st ?_
      simp
    refine awp_block ?_
    refine awp_inv (fun p : Nat × (List UInt8) × Int × (List Api.Token) => mkS 71 0 [(0, .str a1), (3, .mptr 0 0), (5, .mptr 1 0), (6, .osl ⟨4, 75⟩ (p.2.2.2.map Api.Token.c))] [[.int .i64 0, .int .i64 0], [.str p.2.1, .int .i64 p.2.2.1]]) (fun p => M.lexer_Tokens_l1 fuel a1 p.1 p.2.1 p.2.2.1 p.2.2.2 = some r) (fun p => p.1) (fuel, a1, 0, ([] : List Api.Token)) h (le_mkS (by simp)) ?_
    rintro ⟨k11, s7, at8, i9⟩ h
    dsimp only at h ⊢
    cases k11 with
    | zero =>
      rw [M.lexer_Tokens_l1] at h; cases h
    | succ k12 =>
      rw [M.lexer_Tokens_l1] at h
      refine awp_block ?_
      refine awp_seq ?_
      obtain ⟨v13, q14, h⟩ := bs h
      refine cut 71 0 [(0, .str a1), (3, .mptr 0 0), (5, .mptr 1 0), (6, .osl ⟨4, 75⟩ (i9.map Api.Token.c)), (7, .int .i64 v13.1)] [[.int .i64 0, .int .i64 0], [.str v13.2.s, .int .i64 v13.2.at_]] ?_ ?_
      · refine st ?_
        simp
        have r55 := (lexer_scanner_skip_ok fuel (Lexer.scanner.mk s7 at8) v13 q14).frame [1] [[.int .i64 0, .int .i64 0], [.str s7, .int .i64 at8]] (by simp)
        try simp [] at r55
        refine callRaw r55 (by simp []) rfl ?_
        simp
      refine cut 71 0 [(0, .str a1), (3, .mptr 0 0), (5, .mptr 1 0), (6, .osl ⟨4, 75⟩ (i9.map Api.Token.c)), (7, .int .i64 v13.1), (22, .bool (leI 0 v13.1))] [[.int .i64 0, .int .i64 0], [.str v13.2.s, .int .i64 v13.2.at_]] ?_ ?_
      · refine st ?_
        simp
      rcases sp h with ⟨g15, h⟩ | ⟨g15, h⟩
      · have c16 := leT g15
        refine condT rfl g15 ?_
        obtain ⟨v17, q18, h⟩ := bs h
        refine cut 71 0 [(2, .osl ⟨4, 75⟩ (([] : List Api.Token).map Api.Token.c)), (3, .mptr 0 0), (4, .int .i64 4)] [[.int .i64 v17.Line, .int .i64 v17.Column], [.str v13.2.s, .int .i64 v13.2.at_]] ?_ ?_
        · refine st ?_
          simp
          have r19 := lexer_place_ok fuel a1 v13.1 v17 q18
          try simp [] at r19
          refine callPure r19 (by simp) rfl ?_
          simp
        refine awp_ret ?_
        refine ret_seq ?_
        refine ret_blk ?_
        refine ret_seq ?_
        refine ret_blk ?_
        obtain rfl := Option.some.inj h
        simp
      · have c20 := leF g15
        refine condF rfl g15 ?_
        refine awp_skip ?_
        refine seq_eq ?_
        refine cut 71 0 [(0, .str a1), (3, .mptr 0 0), (5, .mptr 1 0), (6, .osl ⟨4, 75⟩ (i9.map Api.Token.c)), (8, .int .i64 v13.2.at_)] [[.int .i64 0, .int .i64 0], [.str v13.2.s, .int .i64 v13.2.at_]] ?_ ?_
        · refine st ?_
          simp
        refine awp_seq ?_
        refine awp_block ?_
        refine cut 71 0 [(0, .str a1), (3, .mptr 0 0), (5, .mptr 1 0), (6, .osl ⟨4, 75⟩ (i9.map Api.Token.c)), (8, .int .i64 v13.2.at_), (30, .bool (leI (a1.length : Int) v13.2.at_))] [[.int .i64 0, .int .i64 0], [.str v13.2.s, .int .i64 v13.2.at_]] ?_ ?_
        · refine st ?_
          simp
        rcases sp h with ⟨g21, h⟩ | ⟨g21, h⟩
        · have c22 := leT g21
          refine condT rfl g21 ?_
          obtain ⟨v23, q24, h⟩ := bs h
          obtain ⟨l25, q26, h⟩ := bs h
          obtain ⟨q27, q28⟩ := app_ok q26
          try simp at q27
          refine cut 71 0 [(2, .osl ⟨4, 75⟩ (l25.map Api.Token.c)), (3, .mptr 0 0), (4, .int .i64 0)] [[.int .i64 0, .int .i64 0], [.str v13.2.s, .int .i64 v13.2.at_]] ?_ ?_
          · refine st ?_
            simp [q27, q28]
            have r29 := lexer_place_ok fuel a1 (a1.length : Int) v23 q24
            try simp [q27, q28] at r29
            refine callPure r29 (by simp) rfl ?_
            simp [q27, q28]
          refine awp_ret ?_
          refine ret_blk ?_
          refine ret_seq ?_
          refine ret_blk ?_
          refine ret_seq ?_
          refine ret_blk ?_
          obtain rfl := Option.some.inj h
          simp
        · have c30 := leF g21
          refine condF rfl g21 ?_
          refine cut 71 0 [(0, .str a1), (3, .mptr 0 0), (5, .mptr 1 0), (6, .osl ⟨4, 75⟩ (i9.map Api.Token.c)), (8, .int .i64 v13.2.at_), (44, .bool (eqI (i9.length : Int) 20000))] [[.int .i64 0, .int .i64 0], [.str v13.2.s, .int .i64 v13.2.at_]] ?_ ?_
          · refine st ?_
            simp
          rcases sp h with ⟨g31, h⟩ | ⟨g31, h⟩
          · have c32 := eqT g31
            refine condT rfl g31 ?_
            obtain ⟨v33, q34, h⟩ := bs h
            refine cut 71 0 [(2, .osl ⟨4, 75⟩ (([] : List Api.Token).map Api.Token.c)), (3, .mptr 0 0), (4, .int .i64 5)] [[.int .i64 v33.Line, .int .i64 v33.Column], [.str v13.2.s, .int .i64 v13.2.at_]] ?_ ?_
            · refine st ?_
              simp
              have r35 := lexer_place_ok fuel a1 v13.2.at_ v33 q34
              try simp [] at r35
              refine callPure r35 (by simp) rfl ?_
              simp
            refine awp_ret ?_
            refine ret_blk ?_
            refine ret_seq ?_
            refine ret_blk ?_
            refine ret_seq ?_
            refine ret_blk ?_
            obtain rfl := Option.some.inj h
            simp
          · have c36 := eqF g31
            refine condF rfl g31 ?_
            refine awp_skip ?_
            refine blk_n ?_
            refine seq_eq ?_
            obtain ⟨v37, q38, h⟩ := bs h
            refine cut 71 0 [(0, .str a1), (3, .mptr 0 0), (5, .mptr 1 0), (6, .osl ⟨4, 75⟩ (i9.map Api.Token.c)), (8, .int .i64 v13.2.at_), (9, .mptr 2 0), (10, .int .i64 v37.2.1), (11, .int .i64 v37.2.2.1)] [[.int .i64 0, .int .i64 0], [.str v37.2.2.2.s, .int .i64 v37.2.2.2.at_], [.int .i64 v37.1.Kind, .str v37.1.Text, .int .i64 v37.1.At.Line, .int .i64 v37.1.At.Column]] ?_ ?_
            · refine st ?_
              simp
              have r54 := (lexer_scanner_token_ok fuel v13.2 v37 q38).frame [1] [[.int .i64 0, .int .i64 0], [.str v13.2.s, .int .i64 v13.2.at_]] (by simp)
              try simp [] at r54
              refine callRaw r54 (by simp []) rfl ?_
              simp
            refine awp_seq ?_
            refine cut 71 0 [(0, .str a1), (3, .mptr 0 0), (5, .mptr 1 0), (6, .osl ⟨4, 75⟩ (i9.map Api.Token.c)), (8, .int .i64 v13.2.at_), (9, .mptr 2 0), (10, .int .i64 v37.2.1), (11, .int .i64 v37.2.2.1), (58, .bool (!(eqI v37.2.2.1 0)))] [[.int .i64 0, .int .i64 0], [.str v37.2.2.2.s, .int .i64 v37.2.2.2.at_], [.int .i64 v37.1.Kind, .str v37.1.Text, .int .i64 v37.1.At.Line, .int .i64 v37.1.At.Column]] ?_ ?_
            · refine st ?_
              simp
            rcases sp h with ⟨g39, h⟩ | ⟨g39, h⟩
            · have g40 := notT g39
              have c41 := eqF g40
              refine condT rfl g39 ?_
              obtain ⟨v42, q43, h⟩ := bs h
              refine cut 71 0 [(2, .osl ⟨4, 75⟩ (([] : List Api.Token).map Api.Token.c)), (3, .mptr 0 0), (4, .int .i64 v37.2.2.1)] [[.int .i64 v42.Line, .int .i64 v42.Column], [.str v37.2.2.2.s, .int .i64 v37.2.2.2.at_], [.int .i64 v37.1.Kind, .str v37.1.Text, .int .i64 v37.1.At.Line, .int .i64 v37.1.At.Column]] ?_ ?_
              · refine st ?_
                simp
                have r44 := lexer_place_ok fuel a1 v37.2.1 v42 q43
                try simp [] at r44
                refine callPure r44 (by simp) rfl ?_
                simp
              refine awp_ret ?_
              refine ret_seq ?_
              refine ret_blk ?_
              refine ret_seq ?_
              refine ret_blk ?_
              obtain rfl := Option.some.inj h
              simp
            · have g45 := notF g39
              have c46 := eqT g45
              refine condF rfl g39 ?_
              refine awp_skip ?_
              refine seq_eq ?_
              obtain ⟨v47, q48, h⟩ := bs h
              refine cut 71 0 [(0, .str a1), (3, .mptr 0 0), (5, .mptr 1 0), (6, .osl ⟨4, 75⟩ (i9.map Api.Token.c)), (9, .mptr 2 0)] [[.int .i64 0, .int .i64 0], [.str v37.2.2.2.s, .int .i64 v37.2.2.2.at_], [.int .i64 v37.1.Kind, .str v37.1.Text, .int .i64 v47.Line, .int .i64 v47.Column]] ?_ ?_
              · refine st ?_
                simp
                have r53 := lexer_place_ok fuel a1 v13.2.at_ v47 q48
                try simp [] at r53
                refine callPure r53 (by simp) rfl ?_
                simp
              obtain ⟨l49, q50, h⟩ := bs h
              obtain ⟨q51, q52⟩ := app_ok q50
              try simp at q51
              refine last 71 0 [(0, .str a1), (3, .mptr 0 0), (5, .mptr 1 0), (6, .osl ⟨4, 75⟩ (l49.map Api.Token.c))] [[.int .i64 0, .int .i64 0], [.str v37.2.2.2.s, .int .i64 v37.2.2.2.at_]] ?_ fun zz hs => ?_
              · refine st ?_
                simp [q51, q52]
              refine blk_n ?_
              exact ⟨(k12, v37.2.2.2.s, v37.2.2.2.at_, l49), hs, h, by simp⟩
end Go.Proofs.Ythbjlmoaceaeeaa
set_option linter.unusedVariables false
set_option linter.unusedSimpArgs false
set_option maxRecDepth 100000
set_option maxHeartbeats 1000000
namespace Go.Proofs.Ythbjlmoaceaeeaa
open Go Go.Abs
theorem law02_awake_ok (fuel : Nat) (r : Bool) (h : M.law02_awake fuel = some r) : Pure Try.prog 28 [] (.bool r) := by
  rw [M.law02_awake] at h
  refine pure_of_body Try.func28 (by rfl) (by rfl) (by simp) (by simp) (by simp) ?_
  refine cut 61 0 [] [] ?_ ?_
  · refine st ?_
    simp
  obtain ⟨v1, q2, h⟩ := bs h
  refine cut 61 0 [(1, .sl (v1.1.map Api.Token.c)), (3, .int .i64 v1.2.2)] [[.int .i64 v1.2.1.Line, .int .i64 v1.2.1.Column]] ?_ ?_
  · refine st ?_
    simp
    have r27 := lexer_Tokens_ok fuel [118, 97, 108, 32, 120, 32, 61, 32, 126, 32, 49, 32, 40, 42, 32, 111, 110, 101, 32, 42, 41] v1 q2
    try simp [] at r27
    refine callPure r27 (by simp) rfl ?_
    simp
  obtain ⟨v3, q4, h⟩ := bs h
  refine cut 61 0 [(1, .sl (v1.1.map Api.Token.c)), (3, .int .i64 v1.2.2), (5, .mptr 1 0), (6, .int .i64 v3.2.2)] [[.int .i64 v1.2.1.Line, .int .i64 v1.2.1.Column], [.int .i64 v3.2.1.Line, .int .i64 v3.2.1.Column]] ?_ ?_
  · refine st ?_
    simp
    have r26 := lexer_Tokens_ok fuel [97, 32, 33] v3 q4
    try simp [] at r26
    refine callPure r26 (by simp) rfl ?_
    simp
  obtain ⟨v5, q6, h⟩ := bs h
  refine cut 61 0 [(1, .sl (v1.1.map Api.Token.c)), (3, .int .i64 v1.2.2), (5, .mptr 1 0), (6, .int .i64 v3.2.2), (9, .int .i64 v5.2.2)] [[.int .i64 v1.2.1.Line, .int .i64 v1.2.1.Column], [.int .i64 v3.2.1.Line, .int .i64 v3.2.1.Column], [.int .i64 v5.2.1.Line, .int .i64 v5.2.1.Column]] ?_ ?_
  · refine st ?_
    simp
    have r25 := lexer_Tokens_ok fuel [48, 48, 55] v5 q6
    try simp [] at r25
    refine callPure r25 (by simp) rfl ?_
    simp
  obtain ⟨b23, q24, h⟩ := bs h
  refine cut 61 0 [(0, .bool b23)] [[.int .i64 v1.2.1.Line, .int .i64 v1.2.1.Column], [.int .i64 v3.2.1.Line, .int .i64 v3.2.1.Column], [.int .i64 v5.2.1.Line, .int .i64 v5.2.1.Column]] ?_ ?_
  · rcases sp q24 with ⟨g7, q24⟩ | ⟨g7, q24⟩
    · have c8 := eqT g7
      rcases sp q24 with ⟨g9, q24⟩ | ⟨g9, q24⟩
      · have c10 := eqT g9
        obtain ⟨x11, q12, q24⟩ := bs q24
        rcases sp q24 with ⟨g13, q24⟩ | ⟨g13, q24⟩
        · obtain ⟨x14, q15, q24⟩ := bs q24
          rcases sp q24 with ⟨g16, q24⟩ | ⟨g16, q24⟩
          · rcases sp q24 with ⟨g17, q24⟩ | ⟨g17, q24⟩
            · have c18 := eqT g17
              rcases sp q24 with ⟨g19, q24⟩ | ⟨g19, q24⟩
              · obtain rfl := Option.some.inj q24
                refine st ?_
                simp [g7, g9, q12, g13, q15, g16, g17, g19]
              · obtain rfl := Option.some.inj q24
                refine st ?_
                simp [g7, g9, q12, g13, q15, g16, g17, g19]
            · have c20 := eqF g17
              obtain rfl := Option.some.inj q24
              refine st ?_
              simp [g7, g9, q12, g13, q15, g16, g17]
          · obtain rfl := Option.some.inj q24
            refine st ?_
            simp [g7, g9, q12, g13, q15, g16]
        · obtain rfl := Option.some.inj q24
          refine st ?_
          simp [g7, g9, q12, g13]
      · have c21 := eqF g9
        obtain rfl := Option.some.inj q24
        refine st ?_
        simp [g7, g9]
    · have c22 := eqF g7
      obtain rfl := Option.some.inj q24
      refine st ?_
      simp [g7]
  refine awp_ret ?_
  obtain rfl := Option.some.inj h
  simp
end Go.Proofs.Ythbjlmoaceaeeaa
set_option linter.unusedVariables false
set_option linter.unusedSimpArgs false
set_option maxRecDepth 100000
set_option maxHeartbeats 1000000
namespace Go.Proofs.Ythbjlmoaceaeeaa
open Go Go.Abs
theorem law02_long_ok (s1 : (List UInt8)) (r : Bool) (h : M.law02_long s1 = some r) : Pure Try.prog 29 [.str s1] (.bool r) := by
  rw [M.law02_long] at h
  refine pure_of_body Try.func29 (by rfl) (by rfl) (by simp) (by simp) (by simp) ?_
  refine cut 16 0 [(0, .str s1)] [] ?_ ?_
  · refine st ?_
    simp
  refine cut 16 0 [(2, .bool (if ltI 1500 (s1.length : Int) then (leI (s1.length : Int) 16384) || (ltI 20000 (s1.length : Int)) else ltI 20000 (s1.length : Int)))] [] ?_ ?_
  · rcases tf (ltI 1500 (s1.length : Int)) with g2 | g2
    · have c3 := ltT g2
      refine factS 0 rfl fun f4 => ?_
      rcases tf (leI (s1.length : Int) 16384) with g5 | g5
      · have c6 := leT g5
        refine st ?_
        simp [g2, g5]
      · have c7 := leF g5
        refine st ?_
        simp [g2, g5]
    · have c8 := ltF g2
      refine factS 0 rfl fun f9 => ?_
      refine st ?_
      simp [g2]
  refine awp_ret ?_
  obtain rfl := Option.some.inj h
  simp
end Go.Proofs.Ythbjlmoaceaeeaa
set_option linter.unusedVariables false
set_option linter.unusedSimpArgs false
set_option maxRecDepth 100000
set_option maxHeartbeats 1000000
namespace Go.Proofs.Ythbjlmoaceaeeaa
open Go Go.Abs
theorem ref02_begins_ok (s1 : (List UInt8)) (t2 : (List UInt8)) (r : Bool) (h : M.ref02_begins s1 t2 = some r) : Pure Try.prog 113 [.str s1, .str t2] (.bool r) := by
  rw [M.ref02_begins] at h
  refine pure_of_body Try.func113 (by rfl) (by rfl) (by simp) (by simp) (by simp) ?_
  refine cut 18 0 [(0, .str s1), (1, .str t2)] [] ?_ ?_
  · refine st ?_
    simp
  obtain ⟨b14, q15, h⟩ := bs h
  refine cut 18 0 [(4, .bool b14)] [] ?_ ?_
  · rcases sp q15 with ⟨g3, q15⟩ | ⟨g3, q15⟩
    · have c4 := leT g3
      refine factS 1 rfl fun f5 => ?_
      refine factS 0 rfl fun f6 => ?_
      obtain ⟨s7, q8, q15⟩ := bs q15
      obtain ⟨q9, q10⟩ := subC_ok q8
      try simp at q9
      try simp at q10
      obtain rfl := Option.some.inj q15
      refine st ?_
      simp [g3, q9, q10]
    · have c11 := leF g3
      refine factS 1 rfl fun f12 => ?_
      refine factS 0 rfl fun f13 => ?_
      obtain rfl := Option.some.inj q15
      refine st ?_
      simp [g3]
  refine awp_ret ?_
  obtain rfl := Option.some.inj h
  simp
end Go.Proofs.Ythbjlmoaceaeeaa
set_option linter.unusedVariables false
set_option linter.unusedSimpArgs false
set_option maxRecDepth 100000
set_option maxHeartbeats 1000000
namespace Go.Proofs.Ythbjlmoaceaeeaa
open Go Go.Abs
theorem ref02_comment_ok (fuel : Nat) (s1 : (List UInt8)) (r : Int) (h : M.ref02_comment fuel s1 = some r) : Pure Try.prog 114 [.str s1] (.int .i64 r) := by
  rw [M.ref02_comment] at h
  refine pure_of_body Try.func114 (by rfl) (by rfl) (by simp) (by simp) (by simp) ?_
  refine cut 45 0 [(0, .str s1)] [] ?_ ?_
  · refine st ?_
    simp
  refine cut 45 0 [(0, .str s1), (3, .int .i64 0)] [] ?_ ?_
  · refine st ?_
    simp
  refine awp_seq ?_
  refine cut 45 0 [(0, .str s1), (3, .int .i64 0), (4, .int .i64 0)] [] ?_ ?_
  · refine st ?_
    simp
  refine awp_block ?_
  obtain ⟨o5, l6, h⟩ := bs h
  refine awp_inv (fun p : Nat × Int × Int => mkS 45 0 [(0, .str s1), (3, .int .i64 p.2.1), (4, .int .i64 p.2.2)] []) (fun p => M.ref02_comment_l1 s1 p.1 p.2.1 p.2.2 = some o5 ∧ 0 ≤ p.2.2) (fun p => p.1) (fuel, 0, 0) ⟨l6, by (try dsimp only); omega⟩ (le_mkS (by simp)) ?_
  rintro ⟨k8, depth2, i3⟩ ⟨l6, c7⟩
  dsimp only at l6 c7 ⊢
  cases k8 with
  | zero =>
    rw [M.ref02_comment_l1] at l6; cases l6
  | succ k9 =>
    rw [M.ref02_comment_l1] at l6
    refine awp_seq ?_
    obtain ⟨n10, q11, l6⟩ := bs l6
    obtain ⟨q12, q13⟩ := chk_ok q11
    try simp at q12
    try simp at q13
    have c14 := q12; simp only [Rng, inR] at c14
    refine cut 45 0 [(0, .str s1), (3, .int .i64 depth2), (4, .int .i64 i3), (9, .bool (ltI n10 (s1.length : Int)))] [] ?_ ?_
    · refine st ?_
      simp [q12, q13]
    rcases sp l6 with ⟨g15, l6⟩ | ⟨g15, l6⟩
    · have c16 := ltT g15
      refine condT rfl g15 ?_
      refine factS 0 rfl fun f17 => ?_
      refine awp_skip ?_
      refine seq_eq ?_
      refine awp_block ?_
      obtain ⟨b30, q31, l6⟩ := bs l6
      refine cut 45 0 [(0, .str s1), (3, .int .i64 depth2), (4, .int .i64 i3), (20, .bool b30)] [] ?_ ?_
      · obtain ⟨c18, q19, q31⟩ := bs q31
        obtain ⟨q20, q21⟩ := idx_ok q19
        rcases sp q31 with ⟨g22, q31⟩ | ⟨g22, q31⟩
        · have c23 := eqT g22
          have c24 := q12; simp only [Rng, inR] at c24
          obtain ⟨c25, q26, q31⟩ := bs q31
          obtain ⟨q27, q28⟩ := idx_ok q26
          obtain rfl := Option.some.inj q31
          refine st ?_
          simp [q20, q21, g22, q12, q13, q27, q28]
        · have c29 := eqF g22
          obtain rfl := Option.some.inj q31
          refine st ?_
          simp [q20, q21, g22]
      rcases sp l6 with ⟨g32, l6⟩ | ⟨g32, l6⟩
      · refine condT rfl g32 ?_
        obtain ⟨n33, q34, l6⟩ := bs l6
        obtain ⟨q35, q36⟩ := chk_ok q34
        try simp at q35
        try simp at q36
        have c37 := q35; simp only [Rng, inR] at c37
        refine cut 45 0 [(0, .str s1), (3, .int .i64 n33), (4, .int .i64 i3)] [] ?_ ?_
        · refine st ?_
          simp [q35, q36]
        obtain ⟨n38, q39, l6⟩ := bs l6
        obtain ⟨q40, q41⟩ := chk_ok q39
        try simp at q40
        try simp at q41
        have c42 := q40; simp only [Rng, inR] at c42
        refine last 45 0 [(0, .str s1), (3, .int .i64 n33), (4, .int .i64 n38)] [] ?_ fun zz hs => ?_
        · refine st ?_
          simp [q40, q41]
        refine blk_n ?_
        exact ⟨(k9, n33, n38), hs, ⟨l6, by (try dsimp only); omega⟩, by simp⟩
      · refine condF rfl g32 ?_
        obtain ⟨b55, q56, l6⟩ := bs l6
        refine cut 45 0 [(0, .str s1), (3, .int .i64 depth2), (4, .int .i64 i3), (35, .bool b55)] [] ?_ ?_
        · obtain ⟨c43, q44, q56⟩ := bs q56
          obtain ⟨q45, q46⟩ := idx_ok q44
          rcases sp q56 with ⟨g47, q56⟩ | ⟨g47, q56⟩
          · have c48 := eqT g47
            have c49 := q12; simp only [Rng, inR] at c49
            obtain ⟨c50, q51, q56⟩ := bs q56
            obtain ⟨q52, q53⟩ := idx_ok q51
            obtain rfl := Option.some.inj q56
            refine st ?_
            simp [q45, q46, g47, q12, q13, q52, q53]
          · have c54 := eqF g47
            obtain rfl := Option.some.inj q56
            refine st ?_
            simp [q45, q46, g47]
        rcases sp l6 with ⟨g57, l6⟩ | ⟨g57, l6⟩
        · refine condT rfl g57 ?_
          obtain ⟨n58, q59, l6⟩ := bs l6
          obtain ⟨q60, q61⟩ := chk_ok q59
          try simp at q60
          try simp at q61
          have c62 := q60; simp only [Rng, inR] at c62
          refine cut 45 0 [(0, .str s1), (3, .int .i64 n58), (4, .int .i64 i3)] [] ?_ ?_
          · refine st ?_
            simp [q60, q61]
          obtain ⟨n63, q64, l6⟩ := bs l6
          obtain ⟨q65, q66⟩ := chk_ok q64
          try simp at q65
          try simp at q66
          have c67 := q65; simp only [Rng, inR] at c67
          refine cut 45 0 [(0, .str s1), (3, .int .i64 n58), (4, .int .i64 n63)] [] ?_ ?_
          · refine st ?_
            simp [q65, q66]
          refine cut 45 0 [(0, .str s1), (3, .int .i64 n58), (4, .int .i64 n63), (41, .bool (eqI n58 0))] [] ?_ ?_
          · refine st ?_
            simp
          rcases sp l6 with ⟨g68, l6⟩ | ⟨g68, l6⟩
          · have c69 := eqT g68
            refine condT rfl g68 ?_
            refine cut 45 0 [(2, .int .i64 n63)] [] ?_ ?_
            · refine st ?_
              simp
            refine awp_ret ?_
            refine ret_blk ?_
            replace h := retL l6 h
            refine ret_seq ?_
            refine ret_blk ?_
            refine ret_seq ?_
            obtain rfl := Option.some.inj h
            simp
          · have c70 := eqF g68
            refine condF rfl g68 ?_
            refine awp_skip ?_
            refine blk_n ?_
            exact ⟨(k9, n58, n63), le_mkS (by simp []), ⟨l6, by (try dsimp only); omega⟩, by simp⟩
        · refine condF rfl g57 ?_
          have c71 := q12; simp only [Rng, inR] at c71
          refine last 45 0 [(0, .str s1), (3, .int .i64 depth2), (4, .int .i64 n10)] [] ?_ fun zz hs => ?_
          · refine st ?_
            simp [q12, q13]
          refine blk_n ?_
          exact ⟨(k9, depth2, n10), hs, ⟨l6, by (try dsimp only); omega⟩, by simp⟩
    · have c72 := ltF g15
      refine condF rfl g15 ?_
      refine factS 0 rfl fun f73 => ?_
      refine awp_exit ?_
      refine exit_seq ?_
      rcases o5 with o5 | o4
      · cases l6
      have q74 := Sum.inr.inj (Option.some.inj l6)
      replace h := elimR h
      refine exit_seq ?_
      refine exit_blk ?_
      refine seq_le (t := mkS 45 0 [] []) ?_ (le_mkS (by simp []))
      refine cut 45 0 [(2, .int .i64 0)] [] ?_ ?_
      · refine st ?_
        simp
      refine awp_ret ?_
      obtain rfl := Option.some.inj h
      simp
end Go.Proofs.Ythbjlmoaceaeeaa
set_option linter.unusedVariables false
set_option linter.unusedSimpArgs false
set_option maxRecDepth 100000
set_option maxHeartbeats 1000000
namespace Go.Proofs.Ythbjlmoaceaeeaa
open Go Go.Abs
theorem ref02_Skip_ok (fuel : Nat) (s1 : (List UInt8)) (r : Int × Bool) (h : M.ref02_Skip fuel s1 = some r) : Pure Try.prog 64 [.str s1] (.tup [.int .i64 r.1, .bool r.2]) := by
  rw [M.ref02_Skip] at h
  refine pure_of_body Try.func64 (by rfl) (by rfl) (by simp) (by simp) (by simp) ?_
  refine cut 44 0 [(0, .str s1)] [] ?_ ?_
  · refine st ?_
    simp
  refine cut 44 0 [(0, .str s1), (4, .int .i64 0)] [] ?_ ?_
  · refine st ?_
    simp
  refine awp_seq ?_
  refine awp_block ?_
  obtain ⟨o4, l5, h⟩ := bs h
  refine awp_inv (fun p : Nat × Int => mkS 44 0 [(0, .str s1), (4, .int .i64 p.2)] []) (fun p => M.ref02_Skip_l1 fuel s1 p.1 p.2 = some o4) (fun p => p.1) (fuel, 0) l5 (le_mkS (by simp)) ?_
  rintro ⟨k6, i2⟩ l5
  dsimp only at l5 ⊢
  cases k6 with
  | zero =>
    rw [M.ref02_Skip_l1] at l5; cases l5
  | succ k7 =>
    rw [M.ref02_Skip_l1] at l5
    refine awp_seq ?_
    refine cut 44 0 [(0, .str s1), (4, .int .i64 i2), (9, .bool (ltI i2 (s1.length : Int)))] [] ?_ ?_
    · refine st ?_
      simp
    rcases sp l5 with ⟨g8, l5⟩ | ⟨g8, l5⟩
    · have c9 := ltT g8
      refine condT rfl g8 ?_
      refine factS 0 rfl fun f10 => ?_
      refine awp_skip ?_
      refine seq_eq ?_
      refine awp_block ?_
      refine awp_seq ?_
      obtain ⟨b21, q22, l5⟩ := bs l5
      refine cut 44 0 [(0, .str s1), (4, .int .i64 i2), (25, .bool b21)] [] ?_ ?_
      · obtain ⟨c11, q12, q22⟩ := bs q22
        obtain ⟨q13, q14⟩ := idx_ok q12
        rcases sp q22 with ⟨g15, q22⟩ | ⟨g15, q22⟩
        · have c16 := eqT g15
          obtain rfl := Option.some.inj q22
          refine st ?_
          simp [q13, q14, g15]
        · have c17 := eqF g15
          rcases sp q22 with ⟨g18, q22⟩ | ⟨g18, q22⟩
          · have c19 := eqT g18
            obtain rfl := Option.some.inj q22
            refine st ?_
            simp [q13, q14, g15, g18]
          · have c20 := eqF g18
            obtain rfl := Option.some.inj q22
            refine st ?_
            simp [q13, q14, g15, g18]
      rcases sp l5 with ⟨g23, l5⟩ | ⟨g23, l5⟩
      · refine condT rfl g23 ?_
        obtain ⟨n24, q25, l5⟩ := bs l5
        obtain ⟨q26, q27⟩ := chk_ok q25
        try simp at q26
        try simp at q27
        have c28 := q26; simp only [Rng, inR] at c28
        refine cut 44 0 [(0, .str s1), (4, .int .i64 n24)] [] ?_ ?_
        · refine st ?_
          simp [q26, q27]
        refine awp_exit ?_
        refine exit_seq ?_
        refine exit_blk ?_
        exact ⟨(k7, n24), le_mkS (by simp []), l5, by simp⟩
      · refine condF rfl g23 ?_
        refine awp_skip ?_
        refine seq_eq ?_
        refine awp_seq ?_
        obtain ⟨s29, q30, l5⟩ := bs l5
        obtain ⟨q31, q32⟩ := subC_ok q30
        try simp at q31
        try simp at q32
        obtain ⟨v33, q34, l5⟩ := bs l5
        refine cut 44 0 [(0, .str s1), (4, .int .i64 i2), (32, .bool (!v33))] [] ?_ ?_
        · refine st ?_
          simp [q31, q32]
          have r50 := ref02_begins_ok s29 [40, 42] v33 q34
          try simp [q31, q32] at r50
          refine callPure r50 (by simp) rfl ?_
          simp [q31, q32]
        rcases sp l5 with ⟨g35, l5⟩ | ⟨g35, l5⟩
        · have g36 := notT g35
          refine condT rfl g35 ?_
          refine awp_exit ?_
          refine exit_seq ?_
          refine exit_blk_ne (by decide) ?_
          rcases o4 with o4 | o3
          · cases l5
          have q37 := Sum.inr.inj (Option.some.inj l5)
          replace h := elimR h
          have q37 := q37.symm
          refine exit_seq ?_
          refine exit_blk ?_
          refine seq_le (t := mkS 44 0 [(4, .int .i64 o3)] []) ?_ (le_mkS (by simp [q37]))
          refine cut 44 0 [(2, .int .i64 o3), (3, .bool false)] [] ?_ ?_
          · refine st ?_
            simp
          refine awp_ret ?_
          obtain rfl := Option.some.inj h
          simp
        · have g38 := notF g35
          refine condF rfl g35 ?_
          refine awp_skip ?_
          refine seq_eq ?_
          obtain ⟨v39, q40, l5⟩ := bs l5
          refine cut 44 0 [(0, .str s1), (4, .int .i64 i2), (5, .int .i64 v39)] [] ?_ ?_
          · refine st ?_
            simp [q31, q32]
            have r49 := ref02_comment_ok fuel s29 v39 q40
            try simp [q31, q32] at r49
            refine callPure r49 (by simp) rfl ?_
            simp [q31, q32]
          refine awp_seq ?_
          refine cut 44 0 [(0, .str s1), (4, .int .i64 i2), (5, .int .i64 v39), (38, .bool (eqI v39 0))] [] ?_ ?_
          · refine st ?_
            simp
          rcases sp l5 with ⟨g41, l5⟩ | ⟨g41, l5⟩
          · have c42 := eqT g41
            refine condT rfl g41 ?_
            refine cut 44 0 [(2, .int .i64 i2), (3, .bool true)] [] ?_ ?_
            · refine st ?_
              simp
            refine awp_ret ?_
            refine ret_seq ?_
            refine ret_blk ?_
            replace h := retL l5 h
            refine ret_seq ?_
            refine ret_blk ?_
            refine ret_seq ?_
            obtain rfl := Option.some.inj h
            simp
          · have c43 := eqF g41
            refine condF rfl g41 ?_
            refine awp_skip ?_
            refine seq_eq ?_
            obtain ⟨n44, q45, l5⟩ := bs l5
            obtain ⟨q46, q47⟩ := chk_ok q45
            try simp at q46
            try simp at q47
            have c48 := q46; simp only [Rng, inR] at c48
            refine last 44 0 [(0, .str s1), (4, .int .i64 n44)] [] ?_ fun zz hs => ?_
            · refine st ?_
              simp [q46, q47]
            refine blk_n ?_
            exact ⟨(k7, n44), hs, l5, by simp⟩
    · have c51 := ltF g8
      refine condF rfl g8 ?_
      refine factS 0 rfl fun f52 => ?_
      refine awp_exit ?_
      refine exit_seq ?_
      rcases o4 with o4 | o3
      · cases l5
      have q53 := Sum.inr.inj (Option.some.inj l5)
      replace h := elimR h
      have q53 := q53.symm
      refine exit_seq ?_
      refine exit_blk ?_
      refine seq_le (t := mkS 44 0 [(4, .int .i64 o3)] []) ?_ (le_mkS (by simp [q53]))
      refine cut 44 0 [(2, .int .i64 o3), (3, .bool false)] [] ?_ ?_
      · refine st ?_
        simp
      refine awp_ret ?_
      obtain rfl := Option.some.inj h
      simp
end Go.Proofs.Ythbjlmoaceaeeaa
set_option linter.unusedVariables false
set_option linter.unusedSimpArgs false
set_option maxRecDepth 100000
set_option maxHeartbeats 1000000
namespace Go.Proofs.Ythbjlmoaceaeeaa
open Go Go.Abs
theorem ref02_Place_ok (fuel : Nat) (s1 : (List UInt8)) (at2 : Int) (r : Api.Pos) (h : M.ref02_Place fuel s1 at2 = some r) : Pure Try.prog 65 [.str s1, .int .i64 at2] (.agg [.int .i64 r.Line, .int .i64 r.Column]) := by
  rw [M.ref02_Place] at h
  refine pure_of_body Try.func65 (by rfl) (by rfl) (by simp) (by simp) (by simp) ?_
  refine cut 27 0 [(0, .str s1), (1, .int .i64 at2), (4, .mptr 0 0)] [[.int .i64 0, .int .i64 0]] ?_ ?_
  · refine st ?_
    simp
  refine cut 27 0 [(0, .str s1), (1, .int .i64 at2), (4, .mptr 0 0), (5, .mptr 1 0)] [[.int .i64 0, .int .i64 0], [.int .i64 1, .int .i64 1]] ?_ ?_
  · refine st ?_
    simp
  refine awp_seq ?_
  refine cut 27 0 [(0, .str s1), (1, .int .i64 at2), (4, .mptr 0 0), (5, .mptr 1 0), (6, .int .i64 0)] [[.int .i64 0, .int .i64 0], [.int .i64 1, .int .i64 1]] ?_ ?_
  · refine st ?_
    simp
  refine awp_block ?_
  obtain ⟨o6, l7, h⟩ := bs h
  refine awp_inv (fun p : Nat × Int × Int × Int => mkS 27 0 [(0, .str s1), (1, .int .i64 at2), (4, .mptr 0 0), (5, .mptr 1 0), (6, .int .i64 p.2.2.2)] [[.int .i64 0, .int .i64 0], [.int .i64 p.2.1, .int .i64 p.2.2.1]]) (fun p => M.ref02_Place_l1 s1 at2 p.1 p.2.1 p.2.2.1 p.2.2.2 = some o6 ∧ 1 ≤ p.2.2.1 ∧ 0 ≤ p.2.2.2) (fun p => p.1) (fuel, 1, 1, 0) ⟨l7, by (try dsimp only); omega, by (try dsimp only); omega⟩ (le_mkS (by simp)) ?_
  rintro ⟨k10, Line3, Column4, i5⟩ ⟨l7, c8, c9⟩
  dsimp only at l7 c8 c9 ⊢
  cases k10 with
  | zero =>
    rw [M.ref02_Place_l1] at l7; cases l7
  | succ k11 =>
    rw [M.ref02_Place_l1] at l7
    refine awp_seq ?_
    refine cut 27 0 [(0, .str s1), (1, .int .i64 at2), (4, .mptr 0 0), (5, .mptr 1 0), (6, .int .i64 i5), (10, .bool (ltI i5 at2))] [[.int .i64 0, .int .i64 0], [.int .i64 Line3, .int .i64 Column4]] ?_ ?_
    · refine st ?_
      simp
    rcases sp l7 with ⟨g12, l7⟩ | ⟨g12, l7⟩
    · have c13 := ltT g12
      refine condT rfl g12 ?_
      refine awp_skip ?_
      refine seq_eq ?_
      refine awp_seq ?_
      refine awp_block ?_
      obtain ⟨c14, q15, l7⟩ := bs l7
      obtain ⟨q16, q17⟩ := idx_ok q15
      refine cut 27 0 [(0, .str s1), (1, .int .i64 at2), (4, .mptr 0 0), (5, .mptr 1 0), (6, .int .i64 i5), (16, .bool (eqI (c14.toNat : Int) 10))] [[.int .i64 0, .int .i64 0], [.int .i64 Line3, .int .i64 Column4]] ?_ ?_
      · refine st ?_
        simp [q16, q17]
      rcases sp l7 with ⟨g18, l7⟩ | ⟨g18, l7⟩
      · have c19 := eqT g18
        refine condT rfl g18 ?_
        obtain ⟨n20, q21, l7⟩ := bs l7
        obtain ⟨q22, q23⟩ := chk_ok q21
        try simp at q22
        try simp at q23
        have c24 := q22; simp only [Rng, inR] at c24
        refine cut 27 0 [(0, .str s1), (1, .int .i64 at2), (4, .mptr 0 0), (5, .mptr 1 0), (6, .int .i64 i5)] [[.int .i64 0, .int .i64 0], [.int .i64 n20, .int .i64 Column4]] ?_ ?_
        · refine st ?_
          simp [q22, q23]
        refine last 27 0 [(0, .str s1), (1, .int .i64 at2), (4, .mptr 0 0), (5, .mptr 1 0), (6, .int .i64 i5)] [[.int .i64 0, .int .i64 0], [.int .i64 n20, .int .i64 1]] ?_ fun zz hs => ?_
        · refine st ?_
          simp
        refine blk_n ?_
        refine seq_le ?_ hs
        obtain ⟨n25, q26, l7⟩ := bs l7
        obtain ⟨q27, q28⟩ := chk_ok q26
        try simp at q27
        try simp at q28
        have c29 := q27; simp only [Rng, inR] at c29
        refine last 27 0 [(0, .str s1), (1, .int .i64 at2), (4, .mptr 0 0), (5, .mptr 1 0), (6, .int .i64 n25)] [[.int .i64 0, .int .i64 0], [.int .i64 n20, .int .i64 1]] ?_ fun zz hs => ?_
        · refine st ?_
          simp [q27, q28]
        exact ⟨(k11, n20, 1, n25), hs, ⟨l7, by (try dsimp only); omega, by (try dsimp only); omega⟩, by simp⟩
      · have c30 := eqF g18
        refine condF rfl g18 ?_
        obtain ⟨n31, q32, l7⟩ := bs l7
        obtain ⟨q33, q34⟩ := chk_ok q32
        try simp at q33
        try simp at q34
        have c35 := q33; simp only [Rng, inR] at c35
        refine last 27 0 [(0, .str s1), (1, .int .i64 at2), (4, .mptr 0 0), (5, .mptr 1 0), (6, .int .i64 i5)] [[.int .i64 0, .int .i64 0], [.int .i64 Line3, .int .i64 n31]] ?_ fun zz hs => ?_
        · refine st ?_
          simp [q33, q34]
        refine blk_n ?_
        refine seq_le ?_ hs
        obtain ⟨n36, q37, l7⟩ := bs l7
        obtain ⟨q38, q39⟩ := chk_ok q37
        try simp at q38
        try simp at q39
        have c40 := q38; simp only [Rng, inR] at c40
        refine last 27 0 [(0, .str s1), (1, .int .i64 at2), (4, .mptr 0 0), (5, .mptr 1 0), (6, .int .i64 n36)] [[.int .i64 0, .int .i64 0], [.int .i64 Line3, .int .i64 n31]] ?_ fun zz hs => ?_
        · refine st ?_
          simp [q38, q39]
        exact ⟨(k11, Line3, n31, n36), hs, ⟨l7, by (try dsimp only); omega, by (try dsimp only); omega⟩, by simp⟩
    · have c41 := ltF g12
      refine condF rfl g12 ?_
      refine awp_exit ?_
      refine exit_seq ?_
      have q42 := Option.some.inj l7
      have q43 : o6.1 = Line3 := by rw [← q42]
      have q44 : o6.2 = Column4 := by rw [← q42]
      refine exit_seq ?_
      refine exit_blk ?_
      refine seq_le (t := mkS 27 0 [(4, .mptr 0 0), (5, .mptr 1 0)] [[.int .i64 0, .int .i64 0], [.int .i64 o6.1, .int .i64 o6.2]]) ?_ (le_mkS (by simp [q43, q44]))
      refine cut 27 0 [(4, .mptr 0 0)] [[.int .i64 o6.1, .int .i64 o6.2], [.int .i64 o6.1, .int .i64 o6.2]] ?_ ?_
      · refine st ?_
        simp
      refine awp_ret ?_
      obtain rfl := Option.some.inj h
      simp
end Go.Proofs.Ythbjlmoaceaeeaa
set_option linter.unusedVariables false
set_option linter.unusedSimpArgs false
set_option maxRecDepth 100000
set_option maxHeartbeats 1000000
namespace Go.Proofs.Ythbjlmoaceaeeaa
open Go Go.Abs
theorem ref02_Small_ok (c1 : UInt8) (r : Bool) (h : M.ref02_Small c1 = some r) : Pure Try.prog 116 [.int .u8 (c1.toNat : Int)] (.bool r) := by
  rw [M.ref02_Small] at h
  refine pure_of_body Try.func116 (by rfl) (by rfl) (by simp) (by simp) (by simp) ?_
  refine cut 9 0 [(0, .int .u8 (c1.toNat : Int))] [] ?_ ?_
  · refine st ?_
    simp
  refine cut 9 0 [(2, .bool ((leI 97 (c1.toNat : Int)) && (leI (c1.toNat : Int) 122)))] [] ?_ ?_
  · rcases tf (leI 97 (c1.toNat : Int)) with g2 | g2
    · have c3 := leT g2
      refine st ?_
      simp [g2]
    · have c4 := leF g2
      refine st ?_
      simp [g2]
  refine awp_ret ?_
  obtain rfl := Option.some.inj h
  simp
end Go.Proofs.Ythbjlmoaceaeeaa
set_option linter.unusedVariables false
set_option linter.unusedSimpArgs false
set_option maxRecDepth 100000
set_option maxHeartbeats 1000000
namespace Go.Proofs.Ythbjlmoaceaeeaa
open Go Go.Abs
theorem ref02_Digit_ok (c1 : UInt8) (r : Bool) (h : M.ref02_Digit c1 = some r) : Pure Try.prog 118 [.int .u8 (c1.toNat : Int)] (.bool r) := by
  rw [M.ref02_Digit] at h
  refine pure_of_body Try.func118 (by rfl) (by rfl) (by simp) (by simp) (by simp) ?_
  refine cut 9 0 [(0, .int .u8 (c1.toNat : Int))] [] ?_ ?_
  · refine st ?_
    simp
  refine cut 9 0 [(2, .bool ((leI 48 (c1.toNat : Int)) && (leI (c1.toNat : Int) 57)))] [] ?_ ?_
  · rcases tf (leI 48 (c1.toNat : Int)) with g2 | g2
    · have c3 := leT g2
      refine st ?_
      simp [g2]
    · have c4 := leF g2
      refine st ?_
      simp [g2]
  refine awp_ret ?_
  obtain rfl := Option.some.inj h
  simp
end Go.Proofs.Ythbjlmoaceaeeaa
set_option linter.unusedVariables false
set_option linter.unusedSimpArgs false
set_option maxRecDepth 100000
set_option maxHeartbeats 1000000
namespace Go.Proofs.Ythbjlmoaceaeeaa
open Go Go.Abs
theorem ref02_Great_ok (c1 : UInt8) (r : Bool) (h : M.ref02_Great c1 = some r) : Pure Try.prog 137 [.int .u8 (c1.toNat : Int)] (.bool r) := by
  rw [M.ref02_Great] at h
  refine pure_of_body Try.func137 (by rfl) (by rfl) (by simp) (by simp) (by simp) ?_
  refine cut 9 0 [(0, .int .u8 (c1.toNat : Int))] [] ?_ ?_
  · refine st ?_
    simp
  refine cut 9 0 [(2, .bool ((leI 65 (c1.toNat : Int)) && (leI (c1.toNat : Int) 90)))] [] ?_ ?_
  · rcases tf (leI 65 (c1.toNat : Int)) with g2 | g2
    · have c3 := leT g2
      refine st ?_
      simp [g2]
    · have c4 := leF g2
      refine st ?_
      simp [g2]
  refine awp_ret ?_
  obtain rfl := Option.some.inj h
  simp
end Go.Proofs.Ythbjlmoaceaeeaa
set_option linter.unusedVariables false
set_option linter.unusedSimpArgs false
set_option maxRecDepth 100000
set_option maxHeartbeats 1000000
namespace Go.Proofs.Ythbjlmoaceaeeaa
open Go Go.Abs
theorem ref02_part_ok (c1 : UInt8) (r : Bool) (h : M.ref02_part c1 = some r) : Pure Try.prog 138 [.int .u8 (c1.toNat : Int)] (.bool r) := by
  rw [M.ref02_part] at h
  refine pure_of_body Try.func138 (by rfl) (by rfl) (by simp) (by simp) (by simp) ?_
  refine cut 17 0 [(0, .int .u8 (c1.toNat : Int))] [] ?_ ?_
  · refine st ?_
    simp
  obtain ⟨b11, q12, h⟩ := bs h
  refine cut 17 0 [(2, .bool b11)] [] ?_ ?_
  · obtain ⟨v2, q3, q12⟩ := bs q12
    rcases sp q12 with ⟨g4, q12⟩ | ⟨g4, q12⟩
    · obtain rfl := Option.some.inj q12
      refine st ?_
      simp [g4]
      have r13 := ref02_Small_ok c1 v2 q3
      try simp [g4] at r13
      refine callPure r13 (by simp) rfl ?_
      simp [g4]
    · obtain ⟨v5, q6, q12⟩ := bs q12
      rcases sp q12 with ⟨g7, q12⟩ | ⟨g7, q12⟩
      · obtain rfl := Option.some.inj q12
        refine st ?_
        simp [g4, g7]
        have r14 := ref02_Small_ok c1 v2 q3
        try simp [g4, g7] at r14
        refine callPure r14 (by simp) rfl ?_
        simp [g4, g7]
        have r15 := ref02_Great_ok c1 v5 q6
        try simp [g4, g7] at r15
        refine callPure r15 (by simp) rfl ?_
        simp [g4, g7]
      · obtain ⟨v8, q9, q12⟩ := bs q12
        rcases sp q12 with ⟨g10, q12⟩ | ⟨g10, q12⟩
        · obtain rfl := Option.some.inj q12
          refine st ?_
          simp [g4, g7, g10]
          have r16 := ref02_Small_ok c1 v2 q3
          try simp [g4, g7, g10] at r16
          refine callPure r16 (by simp) rfl ?_
          simp [g4, g7, g10]
          have r17 := ref02_Great_ok c1 v5 q6
          try simp [g4, g7, g10] at r17
          refine callPure r17 (by simp) rfl ?_
          simp [g4, g7, g10]
          have r18 := ref02_Digit_ok c1 v8 q9
          try simp [g4, g7, g10] at r18
          refine callPure r18 (by simp) rfl ?_
          simp [g4, g7, g10]
        · obtain rfl := Option.some.inj q12
          refine st ?_
          simp [g4, g7, g10]
          have r19 := ref02_Small_ok c1 v2 q3
          try simp [g4, g7, g10] at r19
          refine callPure r19 (by simp) rfl ?_
          simp [g4, g7, g10]
          have r20 := ref02_Great_ok c1 v5 q6
          try simp [g4, g7, g10] at r20
          refine callPure r20 (by simp) rfl ?_
          simp [g4, g7, g10]
          have r21 := ref02_Digit_ok c1 v8 q9
          try simp [g4, g7, g10] at r21
          refine callPure r21 (by simp) rfl ?_
          simp [g4, g7, g10]
  refine awp_ret ?_
  obtain rfl := Option.some.inj h
  simp
end Go.Proofs.Ythbjlmoaceaeeaa
set_option linter.unusedVariables false
set_option linter.unusedSimpArgs false
set_option maxRecDepth 100000
set_option maxHeartbeats 1000000
namespace Go.Proofs.Ythbjlmoaceaeeaa
open Go Go.Abs
theorem ref02_names_ok (fuel : Nat) (s1 : (List UInt8)) (r : Int) (h : M.ref02_names fuel s1 = some r) : Pure Try.prog 115 [.str s1] (.int .i64 r) := by
  rw [M.ref02_names] at h
  refine pure_of_body Try.func115 (by rfl) (by rfl) (by simp) (by simp) (by simp) ?_
  refine cut 31 0 [(0, .str s1)] [] ?_ ?_
  · refine st ?_
    simp
  refine awp_seq ?_
  obtain ⟨b12, q13, h⟩ := bs h
  refine cut 31 0 [(0, .str s1), (17, .bool b12)] [] ?_ ?_
  · rcases sp q13 with ⟨g2, q13⟩ | ⟨g2, q13⟩
    · obtain rfl := Option.some.inj q13
      refine st ?_
      simp [g2]
    · obtain ⟨c3, q4, q13⟩ := bs q13
      obtain ⟨v5, q6, q13⟩ := bs q13
      rcases sp q13 with ⟨g7, q13⟩ | ⟨g7, q13⟩
      · have g8 := notT g7
        obtain ⟨v9, q10, q13⟩ := bs q13
        obtain rfl := Option.some.inj q13
        refine st ?_
        simp [g2, q4, g7]
        have r42 := ref02_Small_ok c3 v5 q6
        try simp [g2, q4, g7] at r42
        refine callPure r42 (by simp) rfl ?_
        simp [g2, q4, g7]
        have r43 := ref02_Great_ok c3 v9 q10
        try simp [g2, q4, g7] at r43
        refine callPure r43 (by simp) rfl ?_
        simp [g2, q4, g7]
      · have g11 := notF g7
        obtain rfl := Option.some.inj q13
        refine st ?_
        simp [g2, q4, g7]
        have r44 := ref02_Small_ok c3 v5 q6
        try simp [g2, q4, g7] at r44
        refine callPure r44 (by simp) rfl ?_
        simp [g2, q4, g7]
  rcases sp h with ⟨g14, h⟩ | ⟨g14, h⟩
  · refine condT rfl g14 ?_
    refine cut 31 0 [(2, .int .i64 0)] [] ?_ ?_
    · refine st ?_
      simp
    refine awp_ret ?_
    refine ret_seq ?_
    obtain rfl := Option.some.inj h
    simp
  · refine condF rfl g14 ?_
    refine awp_skip ?_
    refine seq_eq ?_
    refine cut 31 0 [(0, .str s1), (3, .int .i64 1)] [] ?_ ?_
    · refine st ?_
      simp
    refine awp_seq ?_
    refine awp_block ?_
    obtain ⟨o16, l17, h⟩ := bs h
    refine awp_inv (fun p : Nat × Int => mkS 31 0 [(0, .str s1), (3, .int .i64 p.2)] []) (fun p => M.ref02_names_l1 s1 p.1 p.2 = some o16 ∧ 1 ≤ p.2) (fun p => p.1) (fuel, 1) ⟨l17, by (try dsimp only); omega⟩ (le_mkS (by simp)) ?_
    rintro ⟨k19, n15⟩ ⟨l17, c18⟩
    dsimp only at l17 c18 ⊢
    cases k19 with
    | zero =>
      rw [M.ref02_names_l1] at l17; cases l17
    | succ k20 =>
      rw [M.ref02_names_l1] at l17
      refine awp_seq ?_
      obtain ⟨b32, q33, l17⟩ := bs l17
      refine cut 31 0 [(0, .str s1), (3, .int .i64 n15), (27, .bool b32)] [] ?_ ?_
      · rcases sp q33 with ⟨g21, q33⟩ | ⟨g21, q33⟩
        · have c22 := ltT g21
          refine factS 0 rfl fun f23 => ?_
          obtain ⟨c24, q25, q33⟩ := bs q33
          obtain ⟨q26, q27⟩ := idx_ok q25
          obtain ⟨v28, q29, q33⟩ := bs q33
          obtain rfl := Option.some.inj q33
          refine st ?_
          simp [g21, q26, q27]
          have r41 := ref02_part_ok c24 v28 q29
          try simp [g21, q26, q27] at r41
          refine callPure r41 (by simp) rfl ?_
          simp [g21, q26, q27]
        · have c30 := ltF g21
          refine factS 0 rfl fun f31 => ?_
          obtain rfl := Option.some.inj q33
          refine st ?_
          simp [g21]
      rcases sp l17 with ⟨g34, l17⟩ | ⟨g34, l17⟩
      · refine condT rfl g34 ?_
        refine awp_skip ?_
        refine seq_eq ?_
        refine awp_block ?_
        obtain ⟨n35, q36, l17⟩ := bs l17
        obtain ⟨q37, q38⟩ := chk_ok q36
        try simp at q37
        try simp at q38
        have c39 := q37; simp only [Rng, inR] at c39
        refine last 31 0 [(0, .str s1), (3, .int .i64 n35)] [] ?_ fun zz hs => ?_
        · refine st ?_
          simp [q37, q38]
        refine blk_n ?_
        exact ⟨(k20, n35), hs, ⟨l17, by (try dsimp only); omega⟩, by simp⟩
      · refine condF rfl g34 ?_
        refine awp_exit ?_
        refine exit_seq ?_
        have q40 := Option.some.inj l17
        have q40 := q40.symm
        refine exit_seq ?_
        refine exit_blk ?_
        refine seq_le (t := mkS 31 0 [(3, .int .i64 o16)] []) ?_ (le_mkS (by simp [q40]))
        refine cut 31 0 [(2, .int .i64 o16)] [] ?_ ?_
        · refine st ?_
          simp
        refine awp_ret ?_
        obtain rfl := Option.some.inj h
        simp
end Go.Proofs.Ythbjlmoaceaeeaa
set_option linter.unusedVariables false
set_option linter.unusedSimpArgs false
set_option maxRecDepth 100000
set_option maxHeartbeats 1000000
namespace Go.Proofs.Ythbjlmoaceaeeaa
open Go Go.Abs
theorem ref02_Words_ok (r : (List (List UInt8))) (h : M.ref02_Words = some r) : Pure Try.prog 139 [] (.sl (r.map cS)) := by
  rw [M.ref02_Words] at h
  refine pure_of_body Try.func139 (by rfl) (by rfl) (by simp) (by simp) (by simp) ?_
  refine cut 2 0 [] [] ?_ ?_
  · refine st ?_
    simp
  obtain ⟨l1, q2, h⟩ := bs h
  obtain ⟨q3, q4⟩ := lit_ok q2
  refine cut 2 0 [(0, .osl ⟨1, 9⟩ (l1.map cS))] [] ?_ ?_
  · refine st ?_
    simp [q3, q4]
  refine awp_ret ?_
  obtain rfl := Option.some.inj h
  simp
end Go.Proofs.Ythbjlmoaceaeeaa
set_option linter.unusedVariables false
set_option linter.unusedSimpArgs false
set_option maxRecDepth 100000
set_option maxHeartbeats 1000000
namespace Go.Proofs.Ythbjlmoaceaeeaa
open Go Go.Abs
theorem ref02_Word_ok (fuel : Nat) (s1 : (List UInt8)) (r : Bool) (h : M.ref02_Word fuel s1 = some r) : Pure Try.prog 117 [.str s1] (.bool r) := by
  rw [M.ref02_Word] at h
  refine pure_of_body Try.func117 (by rfl) (by rfl) (by simp) (by simp) (by simp) ?_
  refine cut 18 0 [(0, .str s1)] [] ?_ ?_
  · refine st ?_
    simp
  obtain ⟨v2, q3, h⟩ := bs h
  refine cut 18 0 [(0, .str s1), (3, .sl (v2.map cS))] [] ?_ ?_
  · refine st ?_
    simp
    have r20 := ref02_Words_ok v2 q3
    try simp [] at r20
    refine callPure r20 (by simp) rfl ?_
    simp
  refine awp_seq ?_
  refine cut 18 0 [(0, .str s1), (3, .sl (v2.map cS)), (4, .int .i64 0)] [] ?_ ?_
  · refine st ?_
    simp
  refine awp_block ?_
  obtain ⟨o6, l7, h⟩ := bs h
  refine awp_inv (fun p : Nat × Nat => mkS 18 0 [(0, .str s1), (3, .sl (v2.map cS)), (4, .int .i64 ((p.2 : Nat) : Int))] []) (fun p => M.ref02_Word_l1 s1 v2 p.1 p.2 = some o6) (fun p => p.1) (fuel, 0) l7 (le_mkS (by simp)) ?_
  rintro ⟨k8, i4⟩ l7
  dsimp only at l7 ⊢
  cases k8 with
  | zero =>
    rw [M.ref02_Word_l1] at l7; cases l7
  | succ k9 =>
    rw [M.ref02_Word_l1] at l7
    refine awp_seq ?_
    refine cut 18 0 [(0, .str s1), (3, .sl (v2.map cS)), (4, .int .i64 ((i4 : Nat) : Int)), (9, .bool (ltI ((i4 : Nat) : Int) (v2.length : Int)))] [] ?_ ?_
    · refine st ?_
      simp
    rcases sp l7 with ⟨g10, l7⟩ | ⟨g10, l7⟩
    · have c11 := ltT g10
      refine condT rfl g10 ?_
      refine factL 3 rfl fun f12 => ?_
      rw [List.length_map] at f12
      refine awp_skip ?_
      refine seq_eq ?_
      refine awp_seq ?_
      refine awp_block ?_
      obtain ⟨x13, q14, l7⟩ := bs l7
      refine cut 18 0 [(0, .str s1), (3, .sl (v2.map cS)), (4, .int .i64 ((i4 : Nat) : Int)), (17, .bool (eqS x13 s1))] [] ?_ ?_
      · refine st ?_
        simp [q14]
      rcases sp l7 with ⟨g15, l7⟩ | ⟨g15, l7⟩
      · refine condT rfl g15 ?_
        refine cut 18 0 [(2, .bool true)] [] ?_ ?_
        · refine st ?_
          simp
        refine awp_ret ?_
        refine ret_blk ?_
        refine ret_seq ?_
        replace h := retL l7 h
        refine ret_seq ?_
        refine ret_blk ?_
        refine ret_seq ?_
        obtain rfl := Option.some.inj h
        simp
      · refine condF rfl g15 ?_
        refine awp_skip ?_
        refine blk_n ?_
        refine seq_eq ?_
        have q16 : Rng .i64 (((i4 : Nat) : Int) + 1) := by simp only [Rng, inR]; omega
        try simp at q16
        refine last 18 0 [(0, .str s1), (3, .sl (v2.map cS)), (4, .int .i64 ((i4 + 1 : Nat) : Int))] [] ?_ fun zz hs => ?_
        · refine st ?_
          simp [q16]
        exact ⟨(k9, i4 + 1), hs, l7, by simp⟩
    · have c17 := ltF g10
      refine condF rfl g10 ?_
      refine factL 3 rfl fun f18 => ?_
      rw [List.length_map] at f18
      refine awp_exit ?_
      refine exit_seq ?_
      rcases o6 with o6 | o5
      · cases l7
      have q19 := Sum.inr.inj (Option.some.inj l7)
      replace h := elimR h
      refine exit_seq ?_
      refine exit_blk ?_
      refine seq_le (t := mkS 18 0 [] []) ?_ (le_mkS (by simp []))
      refine cut 18 0 [(2, .bool false)] [] ?_ ?_
      · refine st ?_
        simp
      refine awp_ret ?_
      obtain rfl := Option.some.inj h
      simp
end Go.Proofs.Ythbjlmoaceaeeaa
set_option linter.unusedVariables false
set_option linter.unusedSimpArgs false
set_option maxRecDepth 100000
set_option maxHeartbeats 1000000
namespace Go.Proofs.Ythbjlmoaceaeeaa
open Go Go.Abs
theorem ref02_Number_ok (fuel : Nat) (s1 : (List UInt8)) (r : Int) (h : M.ref02_Number fuel s1 = some r) : Pure Try.prog 119 [.str s1] (.int .i64 r) := by
  rw [M.ref02_Number] at h
  refine pure_of_body Try.func119 (by rfl) (by rfl) (by simp) (by simp) (by simp) ?_
  refine cut 29 0 [(0, .str s1)] [] ?_ ?_
  · refine st ?_
    simp
  refine awp_seq ?_
  obtain ⟨b9, q10, h⟩ := bs h
  refine cut 29 0 [(0, .str s1), (12, .bool b9)] [] ?_ ?_
  · rcases sp q10 with ⟨g2, q10⟩ | ⟨g2, q10⟩
    · have c3 := ltT g2
      refine factS 0 rfl fun f4 => ?_
      obtain ⟨c5, q6, q10⟩ := bs q10
      obtain rfl := Option.some.inj q10
      refine st ?_
      simp [g2, q6]
    · have c7 := ltF g2
      refine factS 0 rfl fun f8 => ?_
      obtain rfl := Option.some.inj q10
      refine st ?_
      simp [g2]
  rcases sp h with ⟨g11, h⟩ | ⟨g11, h⟩
  · refine condT rfl g11 ?_
    refine cut 29 0 [(2, .int .i64 3)] [] ?_ ?_
    · refine st ?_
      simp
    refine awp_ret ?_
    refine ret_seq ?_
    obtain rfl := Option.some.inj h
    simp
  · refine condF rfl g11 ?_
    refine awp_skip ?_
    refine seq_eq ?_
    refine cut 29 0 [(0, .str s1), (3, .int .i64 0)] [] ?_ ?_
    · refine st ?_
      simp
    refine awp_seq ?_
    refine cut 29 0 [(0, .str s1), (3, .int .i64 0), (4, .int .i64 0)] [] ?_ ?_
    · refine st ?_
      simp
    refine awp_block ?_
    obtain ⟨o15, l16, h⟩ := bs h
    refine awp_inv (fun p : Nat × Int × Nat => mkS 29 0 [(0, .str s1), (3, .int .i64 p.2.1), (4, .int .i64 ((p.2.2 : Nat) : Int))] []) (fun p => M.ref02_Number_l1 s1 p.1 p.2.1 p.2.2 = some o15) (fun p => p.1) (fuel, 0, 0) l16 (le_mkS (by simp)) ?_
    rintro ⟨k17, n12, i13⟩ l16
    dsimp only at l16 ⊢
    cases k17 with
    | zero =>
      rw [M.ref02_Number_l1] at l16; cases l16
    | succ k18 =>
      rw [M.ref02_Number_l1] at l16
      refine awp_seq ?_
      refine cut 29 0 [(0, .str s1), (3, .int .i64 n12), (4, .int .i64 ((i13 : Nat) : Int)), (16, .bool (ltI ((i13 : Nat) : Int) (s1.length : Int)))] [] ?_ ?_
      · refine st ?_
        simp
      rcases sp l16 with ⟨g19, l16⟩ | ⟨g19, l16⟩
      · have c20 := ltT g19
        refine condT rfl g19 ?_
        refine factS 0 rfl fun f21 => ?_
        refine awp_skip ?_
        refine seq_eq ?_
        refine awp_seq ?_
        refine awp_block ?_
        obtain ⟨n22, q23, l16⟩ := bs l16
        obtain ⟨q24, q25⟩ := chk_ok q23
        try simp at q24
        try simp at q25
        have c26 := q24; simp only [Rng, inR] at c26
        obtain ⟨c27, q28, l16⟩ := bs l16
        obtain ⟨n29, q30, l16⟩ := bs l16
        obtain ⟨q31, q32⟩ := chk_ok q30
        try simp at q31
        try simp at q32
        have c33 := q31; simp only [Rng, inR] at c33
        have q34 : Rng .i64 (n29) := by simp only [Rng, inR]; omega
        obtain ⟨n35, q36, l16⟩ := bs l16
        obtain ⟨q37, q38⟩ := chk_ok q36
        try simp at q37
        try simp at q38
        have c39 := q37; simp only [Rng, inR] at c39
        refine cut 29 0 [(0, .str s1), (3, .int .i64 n35), (4, .int .i64 ((i13 : Nat) : Int))] [] ?_ ?_
        · refine st ?_
          simp [q24, q25, q28, q31, q32, q34, q37, q38]
        refine cut 29 0 [(0, .str s1), (3, .int .i64 n35), (4, .int .i64 ((i13 : Nat) : Int)), (28, .bool (ltI 4503599627370496 n35))] [] ?_ ?_
        · refine st ?_
          simp
        rcases sp l16 with ⟨g40, l16⟩ | ⟨g40, l16⟩
        · have c41 := ltT g40
          refine condT rfl g40 ?_
          refine cut 29 0 [(2, .int .i64 6)] [] ?_ ?_
          · refine st ?_
            simp
          refine awp_ret ?_
          refine ret_blk ?_
          refine ret_seq ?_
          replace h := retL l16 h
          refine ret_seq ?_
          refine ret_blk ?_
          refine ret_seq ?_
          obtain rfl := Option.some.inj h
          simp
        · have c42 := ltF g40
          refine condF rfl g40 ?_
          refine awp_skip ?_
          refine blk_n ?_
          refine seq_eq ?_
          have q43 : Rng .i64 (((i13 : Nat) : Int) + 1) := by simp only [Rng, inR]; omega
          try simp at q43
          refine last 29 0 [(0, .str s1), (3, .int .i64 n35), (4, .int .i64 ((i13 + 1 : Nat) : Int))] [] ?_ fun zz hs => ?_
          · refine st ?_
            simp [q43]
          exact ⟨(k18, n35, i13 + 1), hs, l16, by simp⟩
      · have c44 := ltF g19
        refine condF rfl g19 ?_
        refine factS 0 rfl fun f45 => ?_
        refine awp_exit ?_
        refine exit_seq ?_
        rcases o15 with o15 | o14
        · cases l16
        have q46 := Sum.inr.inj (Option.some.inj l16)
        replace h := elimR h
        refine exit_seq ?_
        refine exit_blk ?_
        refine seq_le (t := mkS 29 0 [] []) ?_ (le_mkS (by simp []))
        refine cut 29 0 [(2, .int .i64 0)] [] ?_ ?_
        · refine st ?_
          simp
        refine awp_ret ?_
        obtain rfl := Option.some.inj h
        simp
end Go.Proofs.Ythbjlmoaceaeeaa
set_option linter.unusedVariables false
set_option linter.unusedSimpArgs false
set_option maxRecDepth 100000
set_option maxHeartbeats 1000000
namespace Go.Proofs.Ythbjlmoaceaeeaa
open Go Go.Abs
theorem ref02_literal_ok (fuel : Nat) (a1 : (List UInt8)) (r : (List UInt8) × Int × Int × Int) (h : M.ref02_literal fuel a1 = some r) : Pure Try.prog 120 [.str a1] (.tup [.str r.1, .int .i64 r.2.1, .int .i64 r.2.2.1, .int .i64 r.2.2.2]) := by
  rw [M.ref02_literal] at h
  refine pure_of_body Try.func120 (by rfl) (by rfl) (by simp) (by simp) (by simp) ?_
  refine cut 73 0 [(0, .str a1)] [] ?_ ?_
  · refine st ?_
    simp
  refine cut 73 0 [(0, .str a1), (6, .str ([] : List UInt8))] [] ?_ ?_
  · refine st ?_
    simp
  refine cut 73 0 [(0, .str a1), (6, .str ([] : List UInt8)), (7, .int .i64 1)] [] ?_ ?_
  · refine st ?_
    simp
  refine awp_seq ?_
  refine awp_block ?_
  obtain ⟨o5, l6, h⟩ := bs h
  refine awp_inv (fun p : Nat × (List UInt8) × Int => mkS 73 0 [(0, .str a1), (6, .str p.2.1), (7, .int .i64 p.2.2)] []) (fun p => M.ref02_literal_l1 a1 p.1 p.2.1 p.2.2 = some o5 ∧ 1 ≤ p.2.2) (fun p => p.1) (fuel, ([] : List UInt8), 1) ⟨l6, by (try dsimp only); omega⟩ (le_mkS (by simp)) ?_
  rintro ⟨k8, i2, i3⟩ ⟨l6, c7⟩
  dsimp only at l6 c7 ⊢
  cases k8 with
  | zero =>
    rw [M.ref02_literal_l1] at l6; cases l6
  | succ k9 =>
    rw [M.ref02_literal_l1] at l6
    refine awp_seq ?_
    obtain ⟨b19, q20, l6⟩ := bs l6
    refine cut 73 0 [(0, .str a1), (6, .str i2), (7, .int .i64 i3), (17, .bool b19)] [] ?_ ?_
    · rcases sp q20 with ⟨g10, q20⟩ | ⟨g10, q20⟩
      · have c11 := ltT g10
        refine factS 0 rfl fun f12 => ?_
        obtain ⟨c13, q14, q20⟩ := bs q20
        obtain ⟨q15, q16⟩ := idx_ok q14
        obtain rfl := Option.some.inj q20
        refine st ?_
        simp [g10, q15, q16]
      · have c17 := ltF g10
        refine factS 0 rfl fun f18 => ?_
        obtain rfl := Option.some.inj q20
        refine st ?_
        simp [g10]
    rcases sp l6 with ⟨g21, l6⟩ | ⟨g21, l6⟩
    · refine condT rfl g21 ?_
      refine awp_skip ?_
      refine seq_eq ?_
      refine awp_block ?_
      refine awp_seq ?_
      obtain ⟨c22, q23, l6⟩ := bs l6
      obtain ⟨q24, q25⟩ := idx_ok q23
      refine cut 73 0 [(0, .str a1), (6, .str i2), (7, .int .i64 i3), (21, .bool (eqI (c22.toNat : Int) 92))] [] ?_ ?_
      · refine st ?_
        simp [q24, q25]
      rcases sp l6 with ⟨g26, l6⟩ | ⟨g26, l6⟩
      · have c27 := eqT g26
        refine condT rfl g26 ?_
        refine awp_seq ?_
        obtain ⟨n28, q29, l6⟩ := bs l6
        obtain ⟨q30, q31⟩ := chk_ok q29
        try simp at q30
        try simp at q31
        have c32 := q30; simp only [Rng, inR] at c32
        refine cut 73 0 [(0, .str a1), (6, .str i2), (7, .int .i64 i3), (26, .bool (eqI n28 (a1.length : Int)))] [] ?_ ?_
        · refine st ?_
          simp [q30, q31]
        rcases sp l6 with ⟨g33, l6⟩ | ⟨g33, l6⟩
        · have c34 := eqT g33
          refine condT rfl g33 ?_
          refine cut 73 0 [(2, .str ([] : List UInt8)), (3, .int .i64 0), (4, .int .i64 4), (5, .int .i64 0)] [] ?_ ?_
          · refine st ?_
            simp
          refine awp_ret ?_
          refine ret_seq ?_
          refine ret_seq ?_
          refine ret_blk ?_
          replace h := retL l6 h
          refine ret_seq ?_
          refine ret_blk ?_
          refine ret_seq ?_
          obtain rfl := Option.some.inj h
          simp
        · have c35 := eqF g33
          refine condF rfl g33 ?_
          refine awp_skip ?_
          refine seq_eq ?_
          refine awp_seq ?_
          have c36 := q30; simp only [Rng, inR] at c36
          obtain ⟨c37, q38, l6⟩ := bs l6
          obtain ⟨q39, q40⟩ := idx_ok q38
          refine cut 73 0 [(0, .str a1), (6, .str i2), (7, .int .i64 i3), (30, .int .u8 (c37.toNat : Int))] [] ?_ ?_
          · refine st ?_
            simp [q30, q31, q39, q40]
          refine awp_block ?_
          refine cut 73 0 [(0, .str a1), (6, .str i2), (7, .int .i64 i3), (30, .int .u8 (c37.toNat : Int)), (32, .bool (eqI (c37.toNat : Int) 110))] [] ?_ ?_
          · refine st ?_
            simp
          rcases sp l6 with ⟨g41, l6⟩ | ⟨g41, l6⟩
          · have c42 := eqT g41
            refine condT rfl g41 ?_
            obtain ⟨s43, q44, l6⟩ := bs l6
            obtain ⟨q45, q46⟩ := cat_ok q44
            try simp at q45
            try simp at q46
            refine last 73 0 [(0, .str a1), (6, .str s43), (7, .int .i64 i3)] [] ?_ fun zz hs => ?_
            · refine st ?_
              simp [q45, q46]
            refine blk_n ?_
            refine seq_le ?_ hs
            obtain ⟨n47, q48, l6⟩ := bs l6
            obtain ⟨q49, q50⟩ := chk_ok q48
            try simp at q49
            try simp at q50
            have c51 := q49; simp only [Rng, inR] at c51
            refine cut 73 0 [(0, .str a1), (6, .str s43), (7, .int .i64 n47)] [] ?_ ?_
            · refine st ?_
              simp [q49, q50]
            refine awp_exit ?_
            refine exit_seq ?_
            refine exit_blk ?_
            exact ⟨(k9, s43, n47), le_mkS (by simp []), ⟨l6, by (try dsimp only); omega⟩, by simp⟩
          · have c52 := eqF g41
            refine condF rfl g41 ?_
            refine cut 73 0 [(0, .str a1), (6, .str i2), (7, .int .i64 i3), (30, .int .u8 (c37.toNat : Int)), (36, .bool (eqI (c37.toNat : Int) 34))] [] ?_ ?_
            · refine st ?_
              simp
            rcases sp l6 with ⟨g53, l6⟩ | ⟨g53, l6⟩
            · have c54 := eqT g53
              refine condT rfl g53 ?_
              obtain ⟨s55, q56, l6⟩ := bs l6
              obtain ⟨q57, q58⟩ := cat_ok q56
              try simp at q57
              try simp at q58
              refine last 73 0 [(0, .str a1), (6, .str s55), (7, .int .i64 i3)] [] ?_ fun zz hs => ?_
              · refine st ?_
                simp [q57, q58]
              refine blk_n ?_
              refine seq_le ?_ hs
              obtain ⟨n59, q60, l6⟩ := bs l6
              obtain ⟨q61, q62⟩ := chk_ok q60
              try simp at q61
              try simp at q62
              have c63 := q61; simp only [Rng, inR] at c63
              refine cut 73 0 [(0, .str a1), (6, .str s55), (7, .int .i64 n59)] [] ?_ ?_
              · refine st ?_
                simp [q61, q62]
              refine awp_exit ?_
              refine exit_seq ?_
              refine exit_blk ?_
              exact ⟨(k9, s55, n59), le_mkS (by simp []), ⟨l6, by (try dsimp only); omega⟩, by simp⟩
            · have c64 := eqF g53
              refine condF rfl g53 ?_
              refine cut 73 0 [(0, .str a1), (6, .str i2), (7, .int .i64 i3), (40, .bool (eqI (c37.toNat : Int) 92))] [] ?_ ?_
              · refine st ?_
                simp
              rcases sp l6 with ⟨g65, l6⟩ | ⟨g65, l6⟩
              · have c66 := eqT g65
                refine condT rfl g65 ?_
                obtain ⟨s67, q68, l6⟩ := bs l6
                obtain ⟨q69, q70⟩ := cat_ok q68
                try simp at q69
                try simp at q70
                refine last 73 0 [(0, .str a1), (6, .str s67), (7, .int .i64 i3)] [] ?_ fun zz hs => ?_
                · refine st ?_
                  simp [q69, q70]
                refine blk_n ?_
                refine seq_le ?_ hs
                obtain ⟨n71, q72, l6⟩ := bs l6
                obtain ⟨q73, q74⟩ := chk_ok q72
                try simp at q73
                try simp at q74
                have c75 := q73; simp only [Rng, inR] at c75
                refine cut 73 0 [(0, .str a1), (6, .str s67), (7, .int .i64 n71)] [] ?_ ?_
                · refine st ?_
                  simp [q73, q74]
                refine awp_exit ?_
                refine exit_seq ?_
                refine exit_blk ?_
                exact ⟨(k9, s67, n71), le_mkS (by simp []), ⟨l6, by (try dsimp only); omega⟩, by simp⟩
              · have c76 := eqF g65
                refine condF rfl g65 ?_
                refine cut 73 0 [(2, .str ([] : List UInt8)), (3, .int .i64 0), (4, .int .i64 3), (5, .int .i64 i3)] [] ?_ ?_
                · refine st ?_
                  simp
                refine awp_ret ?_
                refine ret_blk ?_
                refine ret_seq ?_
                refine ret_seq ?_
                refine ret_blk ?_
                replace h := retL l6 h
                refine ret_seq ?_
                refine ret_blk ?_
                refine ret_seq ?_
                obtain rfl := Option.some.inj h
                simp
      · have c77 := eqF g26
        refine condF rfl g26 ?_
        refine awp_skip ?_
        refine seq_eq ?_
        refine awp_seq ?_
        refine cut 73 0 [(0, .str a1), (6, .str i2), (7, .int .i64 i3), (55, .bool ((ltI (c22.toNat : Int) 32) || (ltI 126 (c22.toNat : Int))))] [] ?_ ?_
        · rcases tf (ltI (c22.toNat : Int) 32) with g78 | g78
          · have c79 := ltT g78
            refine st ?_
            simp [q24, q25, g78]
          · have c80 := ltF g78
            refine st ?_
            simp [q24, q25, g78]
        rcases sp l6 with ⟨g81, l6⟩ | ⟨g81, l6⟩
        · refine condT rfl g81 ?_
          refine cut 73 0 [(2, .str ([] : List UInt8)), (3, .int .i64 0), (4, .int .i64 3), (5, .int .i64 i3)] [] ?_ ?_
          · refine st ?_
            simp
          refine awp_ret ?_
          refine ret_seq ?_
          refine ret_blk ?_
          replace h := retL l6 h
          refine ret_seq ?_
          refine ret_blk ?_
          refine ret_seq ?_
          obtain rfl := Option.some.inj h
          simp
        · obtain ⟨g82, g83⟩ := orF g81
          have c84 := ltF g82
          have c85 := ltF g83
          refine condF rfl g81 ?_
          refine awp_skip ?_
          refine seq_eq ?_
          obtain ⟨n86, q87, l6⟩ := bs l6
          obtain ⟨q88, q89⟩ := chk_ok q87
          try simp at q88
          try simp at q89
          have c90 := q88; simp only [Rng, inR] at c90
          obtain ⟨s91, q92, l6⟩ := bs l6
          obtain ⟨q93, q94⟩ := subC_ok q92
          try simp at q93
          try simp at q94
          obtain ⟨s95, q96, l6⟩ := bs l6
          obtain ⟨q97, q98⟩ := cat_ok q96
          try simp at q97
          try simp at q98
          refine cut 73 0 [(0, .str a1), (6, .str s95), (7, .int .i64 i3)] [] ?_ ?_
          · refine st ?_
            simp [q88, q89, q93, q94, q97, q98]
          have c99 := q88; simp only [Rng, inR] at c99
          refine last 73 0 [(0, .str a1), (6, .str s95), (7, .int .i64 n86)] [] ?_ fun zz hs => ?_
          · refine st ?_
            simp [q88, q89]
          refine blk_n ?_
          exact ⟨(k9, s95, n86), hs, ⟨l6, by (try dsimp only); omega⟩, by simp⟩
    · refine condF rfl g21 ?_
      refine awp_exit ?_
      refine exit_seq ?_
      rcases o5 with o5 | o4
      · cases l6
      have q100 := Sum.inr.inj (Option.some.inj l6)
      replace h := elimR h
      have q101 : o4.1 = i2 := by rw [← q100]
      have q102 : o4.2 = i3 := by rw [← q100]
      refine exit_seq ?_
      refine exit_blk ?_
      refine seq_le (t := mkS 73 0 [(0, .str a1), (6, .str o4.1), (7, .int .i64 o4.2)] []) ?_ (le_mkS (by simp [q101, q102]))
      refine awp_seq ?_
      refine cut 73 0 [(6, .str o4.1), (7, .int .i64 o4.2), (69, .bool (eqI o4.2 (a1.length : Int)))] [] ?_ ?_
      · refine st ?_
        simp
      rcases sp h with ⟨g103, h⟩ | ⟨g103, h⟩
      · have c104 := eqT g103
        refine condT rfl g103 ?_
        refine cut 73 0 [(2, .str ([] : List UInt8)), (3, .int .i64 0), (4, .int .i64 4), (5, .int .i64 0)] [] ?_ ?_
        · refine st ?_
          simp
        refine awp_ret ?_
        refine ret_seq ?_
        obtain rfl := Option.some.inj h
        simp
      · have c105 := eqF g103
        refine condF rfl g103 ?_
        refine awp_skip ?_
        refine seq_eq ?_
        obtain ⟨n106, q107, h⟩ := bs h
        obtain ⟨q108, q109⟩ := chk_ok q107
        try simp at q108
        try simp at q109
        have c110 := q108; simp only [Rng, inR] at c110
        refine cut 73 0 [(2, .str o4.1), (3, .int .i64 n106), (4, .int .i64 0), (5, .int .i64 0)] [] ?_ ?_
        · refine st ?_
          simp [q108, q109]
        refine awp_ret ?_
        obtain rfl := Option.some.inj h
        simp
end Go.Proofs.Ythbjlmoaceaeeaa
set_option linter.unusedVariables false
set_option linter.unusedSimpArgs false
set_option maxRecDepth 100000
set_option maxHeartbeats 1000000
namespace Go.Proofs.Ythbjlmoaceaeeaa
open Go Go.Abs
theorem ref02_Symbol_ok (fuel : Nat) (s1 : (List UInt8)) (r : (List UInt8)) (h : M.ref02_Symbol fuel s1 = some r) : Pure Try.prog 121 [.str s1] (.str r) := by
  rw [M.ref02_Symbol] at h
  refine pure_of_body Try.func121 (by rfl) (by rfl) (by simp) (by simp) (by simp) ?_
  refine cut 24 0 [(0, .str s1)] [] ?_ ?_
  · refine st ?_
    simp
  refine awp_seq ?_
  obtain ⟨v2, q3, h⟩ := bs h
  refine cut 24 0 [(0, .str s1), (6, .bool v2)] [] ?_ ?_
  · refine st ?_
    simp
    have r28 := ref02_begins_ok s1 [40, 42] v2 q3
    try simp [] at r28
    refine callPure r28 (by simp) rfl ?_
    simp
  rcases sp h with ⟨g4, h⟩ | ⟨g4, h⟩
  · refine condT rfl g4 ?_
    refine cut 24 0 [(2, .str ([] : List UInt8))] [] ?_ ?_
    · refine st ?_
      simp
    refine awp_ret ?_
    refine ret_seq ?_
    obtain rfl := Option.some.inj h
    simp
  · refine condF rfl g4 ?_
    refine awp_skip ?_
    refine seq_eq ?_
    obtain ⟨l5, q6, h⟩ := bs h
    obtain ⟨q7, q8⟩ := lit_ok q6
    refine cut 24 0 [(0, .str s1), (3, .osl ⟨1, 9⟩ (l5.map cS))] [] ?_ ?_
    · refine st ?_
      simp [q7, q8]
    refine awp_seq ?_
    refine cut 24 0 [(0, .str s1), (3, .osl ⟨1, 9⟩ (l5.map cS)), (4, .int .i64 0)] [] ?_ ?_
    · refine st ?_
      simp
    refine awp_block ?_
    obtain ⟨o11, l12, h⟩ := bs h
    refine awp_inv (fun p : Nat × Nat => mkS 24 0 [(0, .str s1), (3, .osl ⟨1, 9⟩ (l5.map cS)), (4, .int .i64 ((p.2 : Nat) : Int))] []) (fun p => M.ref02_Symbol_l1 s1 l5 p.1 p.2 = some o11) (fun p => p.1) (fuel, 0) l12 (le_mkS (by simp)) ?_
    rintro ⟨k13, i9⟩ l12
    dsimp only at l12 ⊢
    cases k13 with
    | zero =>
      rw [M.ref02_Symbol_l1] at l12; cases l12
    | succ k14 =>
      rw [M.ref02_Symbol_l1] at l12
      refine awp_seq ?_
      refine cut 24 0 [(0, .str s1), (3, .osl ⟨1, 9⟩ (l5.map cS)), (4, .int .i64 ((i9 : Nat) : Int)), (11, .bool (ltI ((i9 : Nat) : Int) (l5.length : Int)))] [] ?_ ?_
      · refine st ?_
        simp
      rcases sp l12 with ⟨g15, l12⟩ | ⟨g15, l12⟩
      · have c16 := ltT g15
        refine condT rfl g15 ?_
        refine factL 3 rfl fun f17 => ?_
        rw [List.length_map] at f17
        refine awp_skip ?_
        refine seq_eq ?_
        refine awp_seq ?_
        refine awp_block ?_
        obtain ⟨x18, q19, l12⟩ := bs l12
        obtain ⟨v20, q21, l12⟩ := bs l12
        refine cut 24 0 [(0, .str s1), (3, .osl ⟨1, 9⟩ (l5.map cS)), (4, .int .i64 ((i9 : Nat) : Int)), (19, .bool v20)] [] ?_ ?_
        · refine st ?_
          simp [q19]
          have r24 := ref02_begins_ok s1 x18 v20 q21
          try simp [q19] at r24
          refine callPure r24 (by simp) rfl ?_
          simp [q19]
        rcases sp l12 with ⟨g22, l12⟩ | ⟨g22, l12⟩
        · refine condT rfl g22 ?_
          refine cut 24 0 [(2, .str x18)] [] ?_ ?_
          · refine st ?_
            simp [q19]
          refine awp_ret ?_
          refine ret_blk ?_
          refine ret_seq ?_
          replace h := retL l12 h
          refine ret_seq ?_
          refine ret_blk ?_
          refine ret_seq ?_
          obtain rfl := Option.some.inj h
          simp
        · refine condF rfl g22 ?_
          refine awp_skip ?_
          refine blk_n ?_
          refine seq_eq ?_
          have q23 : Rng .i64 (((i9 : Nat) : Int) + 1) := by simp only [Rng, inR]; omega
          try simp at q23
          refine last 24 0 [(0, .str s1), (3, .osl ⟨1, 9⟩ (l5.map cS)), (4, .int .i64 ((i9 + 1 : Nat) : Int))] [] ?_ fun zz hs => ?_
          · refine st ?_
            simp [q23]
          exact ⟨(k14, i9 + 1), hs, l12, by simp⟩
      · have c25 := ltF g15
        refine condF rfl g15 ?_
        refine factL 3 rfl fun f26 => ?_
        rw [List.length_map] at f26
        refine awp_exit ?_
        refine exit_seq ?_
        rcases o11 with o11 | o10
        · cases l12
        have q27 := Sum.inr.inj (Option.some.inj l12)
        replace h := elimR h
        refine exit_seq ?_
        refine exit_blk ?_
        refine seq_le (t := mkS 24 0 [] []) ?_ (le_mkS (by simp []))
        refine cut 24 0 [(2, .str ([] : List UInt8))] [] ?_ ?_
        · refine st ?_
          simp
        refine awp_ret ?_
        obtain rfl := Option.some.inj h
        simp
end Go.Proofs.Ythbjlmoaceaeeaa
set_option linter.unusedVariables false
set_option linter.unusedSimpArgs false
set_option maxRecDepth 100000
set_option maxHeartbeats 1000000
namespace Go.Proofs.Ythbjlmoaceaeeaa
open Go Go.Abs
theorem ref02_Next_ok (fuel : Nat) (a1 : (List UInt8)) (r : Api.Token × Int × Int × Int) (h : M.ref02_Next fuel a1 = some r) : Pure Try.prog 66 [.str a1] (.tup [.agg [.int .i64 r.1.Kind, .str r.1.Text, .int .i64 r.1.At.Line, .int .i64 r.1.At.Column], .int .i64 r.2.1, .int .i64 r.2.2.1, .int .i64 r.2.2.2]) := by
  rw [M.ref02_Next] at h
  refine pure_of_body Try.func66 (by rfl) (by rfl) (by simp) (by simp) (by simp) ?_
  refine cut 113 0 [(0, .str a1), (2, .mptr 0 0)] [[.int .i64 0, .str ([] : List UInt8), .int .i64 0, .int .i64 0]] ?_ ?_
  · refine st ?_
    simp
  refine awp_seq ?_
  obtain ⟨v2, q3, h⟩ := bs h
  refine cut 113 0 [(0, .str a1), (2, .mptr 0 0), (6, .int .i64 v2)] [[.int .i64 0, .str ([] : List UInt8), .int .i64 0, .int .i64 0]] ?_ ?_
  · refine st ?_
    simp
    have r124 := ref02_names_ok fuel a1 v2 q3
    try simp [] at r124
    refine callPure r124 (by simp) rfl ?_
    simp
  refine cut 113 0 [(0, .str a1), (2, .mptr 0 0), (6, .int .i64 v2), (18, .bool (ltI 0 v2))] [[.int .i64 0, .str ([] : List UInt8), .int .i64 0, .int .i64 0]] ?_ ?_
  · refine st ?_
    simp
  rcases sp h with ⟨g4, h⟩ | ⟨g4, h⟩
  · have c5 := ltT g4
    refine condT rfl g4 ?_
    obtain ⟨s6, q7, h⟩ := bs h
    obtain ⟨q8, q9⟩ := subC_ok q7
    try simp at q8
    try simp at q9
    refine cut 113 0 [(0, .str a1), (2, .mptr 0 0), (6, .int .i64 v2), (7, .mptr 1 0)] [[.int .i64 0, .str ([] : List UInt8), .int .i64 0, .int .i64 0], [.int .i64 2, .str s6, .int .i64 0, .int .i64 0]] ?_ ?_
    · refine st ?_
      simp [q8, q9]
    refine awp_seq ?_
    obtain ⟨c10, q11, h⟩ := bs h
    obtain ⟨v12, q13, h⟩ := bs h
    refine cut 113 0 [(2, .mptr 0 0), (6, .int .i64 v2), (7, .mptr 1 0), (25, .bool v12)] [[.int .i64 0, .str ([] : List UInt8), .int .i64 0, .int .i64 0], [.int .i64 2, .str s6, .int .i64 0, .int .i64 0]] ?_ ?_
    · refine st ?_
      simp [q11]
      have r35 := ref02_Small_ok c10 v12 q13
      try simp [q11] at r35
      refine callPure r35 (by simp) rfl ?_
      simp [q11]
    rcases sp h with ⟨g14, h⟩ | ⟨g14, h⟩
    · refine condT rfl g14 ?_
      refine last 113 0 [(2, .mptr 0 0), (6, .int .i64 v2), (7, .mptr 1 0)] [[.int .i64 0, .str ([] : List UInt8), .int .i64 0, .int .i64 0], [.int .i64 1, .str s6, .int .i64 0, .int .i64 0]] ?_ fun zz hs => ?_
      · refine st ?_
        simp
      refine seq_le ?_ hs
      refine awp_seq ?_
      obtain ⟨v15, q16, h⟩ := bs h
      refine cut 113 0 [(2, .mptr 0 0), (6, .int .i64 v2), (7, .mptr 1 0), (29, .bool v15)] [[.int .i64 0, .str ([] : List UInt8), .int .i64 0, .int .i64 0], [.int .i64 1, .str s6, .int .i64 0, .int .i64 0]] ?_ ?_
      · refine st ?_
        simp
        have r24 := ref02_Word_ok fuel s6 v15 q16
        try simp [] at r24
        refine callPure r24 (by simp) rfl ?_
        simp
      rcases sp h with ⟨g17, h⟩ | ⟨g17, h⟩
      · refine condT rfl g17 ?_
        refine last 113 0 [(2, .mptr 0 0), (6, .int .i64 v2), (7, .mptr 1 0)] [[.int .i64 0, .str ([] : List UInt8), .int .i64 0, .int .i64 0], [.int .i64 6, .str s6, .int .i64 0, .int .i64 0]] ?_ fun zz hs => ?_
        · refine st ?_
          simp
        refine seq_le ?_ hs
        refine awp_seq ?_
        refine cut 113 0 [(2, .mptr 0 0), (6, .int .i64 v2), (7, .mptr 1 0), (32, .bool (ltI 24 v2))] [[.int .i64 0, .str ([] : List UInt8), .int .i64 0, .int .i64 0], [.int .i64 6, .str s6, .int .i64 0, .int .i64 0]] ?_ ?_
        · refine st ?_
          simp
        rcases sp h with ⟨g18, h⟩ | ⟨g18, h⟩
        · have c19 := ltT g18
          refine condT rfl g18 ?_
          refine cut 113 0 [(2, .mptr 0 0), (3, .int .i64 0), (4, .int .i64 5), (5, .int .i64 0)] [[.int .i64 0, .str ([] : List UInt8), .int .i64 0, .int .i64 0], [.int .i64 6, .str s6, .int .i64 0, .int .i64 0]] ?_ ?_
          · refine st ?_
            simp
          refine awp_ret ?_
          refine ret_seq ?_
          refine ret_seq ?_
          obtain rfl := Option.some.inj h
          simp
        · have c20 := ltF g18
          refine condF rfl g18 ?_
          refine awp_skip ?_
          refine seq_eq ?_
          refine cut 113 0 [(2, .mptr 0 0), (3, .int .i64 v2), (4, .int .i64 0), (5, .int .i64 0)] [[.int .i64 6, .str s6, .int .i64 0, .int .i64 0], [.int .i64 6, .str s6, .int .i64 0, .int .i64 0]] ?_ ?_
          · refine st ?_
            simp
          refine awp_ret ?_
          refine ret_seq ?_
          obtain rfl := Option.some.inj h
          simp
      · refine condF rfl g17 ?_
        refine awp_skip ?_
        refine seq_eq ?_
        refine awp_seq ?_
        refine cut 113 0 [(2, .mptr 0 0), (6, .int .i64 v2), (7, .mptr 1 0), (32, .bool (ltI 24 v2))] [[.int .i64 0, .str ([] : List UInt8), .int .i64 0, .int .i64 0], [.int .i64 1, .str s6, .int .i64 0, .int .i64 0]] ?_ ?_
        · refine st ?_
          simp
        rcases sp h with ⟨g21, h⟩ | ⟨g21, h⟩
        · have c22 := ltT g21
          refine condT rfl g21 ?_
          refine cut 113 0 [(2, .mptr 0 0), (3, .int .i64 0), (4, .int .i64 5), (5, .int .i64 0)] [[.int .i64 0, .str ([] : List UInt8), .int .i64 0, .int .i64 0], [.int .i64 1, .str s6, .int .i64 0, .int .i64 0]] ?_ ?_
          · refine st ?_
            simp
          refine awp_ret ?_
          refine ret_seq ?_
          refine ret_seq ?_
          obtain rfl := Option.some.inj h
          simp
        · have c23 := ltF g21
          refine condF rfl g21 ?_
          refine awp_skip ?_
          refine seq_eq ?_
          refine cut 113 0 [(2, .mptr 0 0), (3, .int .i64 v2), (4, .int .i64 0), (5, .int .i64 0)] [[.int .i64 1, .str s6, .int .i64 0, .int .i64 0], [.int .i64 1, .str s6, .int .i64 0, .int .i64 0]] ?_ ?_
          · refine st ?_
            simp
          refine awp_ret ?_
          refine ret_seq ?_
          obtain rfl := Option.some.inj h
          simp
    · refine condF rfl g14 ?_
      refine awp_skip ?_
      refine seq_eq ?_
      refine awp_seq ?_
      obtain ⟨v25, q26, h⟩ := bs h
      refine cut 113 0 [(2, .mptr 0 0), (6, .int .i64 v2), (7, .mptr 1 0), (29, .bool v25)] [[.int .i64 0, .str ([] : List UInt8), .int .i64 0, .int .i64 0], [.int .i64 2, .str s6, .int .i64 0, .int .i64 0]] ?_ ?_
      · refine st ?_
        simp
        have r34 := ref02_Word_ok fuel s6 v25 q26
        try simp [] at r34
        refine callPure r34 (by simp) rfl ?_
        simp
      rcases sp h with ⟨g27, h⟩ | ⟨g27, h⟩
      · refine condT rfl g27 ?_
        refine last 113 0 [(2, .mptr 0 0), (6, .int .i64 v2), (7, .mptr 1 0)] [[.int .i64 0, .str ([] : List UInt8), .int .i64 0, .int .i64 0], [.int .i64 6, .str s6, .int .i64 0, .int .i64 0]] ?_ fun zz hs => ?_
        · refine st ?_
          simp
        refine seq_le ?_ hs
        refine awp_seq ?_
        refine cut 113 0 [(2, .mptr 0 0), (6, .int .i64 v2), (7, .mptr 1 0), (32, .bool (ltI 24 v2))] [[.int .i64 0, .str ([] : List UInt8), .int .i64 0, .int .i64 0], [.int .i64 6, .str s6, .int .i64 0, .int .i64 0]] ?_ ?_
        · refine st ?_
          simp
        rcases sp h with ⟨g28, h⟩ | ⟨g28, h⟩
        · have c29 := ltT g28
          refine condT rfl g28 ?_
          refine cut 113 0 [(2, .mptr 0 0), (3, .int .i64 0), (4, .int .i64 5), (5, .int .i64 0)] [[.int .i64 0, .str ([] : List UInt8), .int .i64 0, .int .i64 0], [.int .i64 6, .str s6, .int .i64 0, .int .i64 0]] ?_ ?_
          · refine st ?_
            simp
          refine awp_ret ?_
          refine ret_seq ?_
          refine ret_seq ?_
          obtain rfl := Option.some.inj h
          simp
        · have c30 := ltF g28
          refine condF rfl g28 ?_
          refine awp_skip ?_
          refine seq_eq ?_
          refine cut 113 0 [(2, .mptr 0 0), (3, .int .i64 v2), (4, .int .i64 0), (5, .int .i64 0)] [[.int .i64 6, .str s6, .int .i64 0, .int .i64 0], [.int .i64 6, .str s6, .int .i64 0, .int .i64 0]] ?_ ?_
          · refine st ?_
            simp
          refine awp_ret ?_
          refine ret_seq ?_
          obtain rfl := Option.some.inj h
          simp
      · refine condF rfl g27 ?_
        refine awp_skip ?_
        refine seq_eq ?_
        refine awp_seq ?_
        refine cut 113 0 [(2, .mptr 0 0), (6, .int .i64 v2), (7, .mptr 1 0), (32, .bool (ltI 24 v2))] [[.int .i64 0, .str ([] : List UInt8), .int .i64 0, .int .i64 0], [.int .i64 2, .str s6, .int .i64 0, .int .i64 0]] ?_ ?_
        · refine st ?_
          simp
        rcases sp h with ⟨g31, h⟩ | ⟨g31, h⟩
        · have c32 := ltT g31
          refine condT rfl g31 ?_
          refine cut 113 0 [(2, .mptr 0 0), (3, .int .i64 0), (4, .int .i64 5), (5, .int .i64 0)] [[.int .i64 0, .str ([] : List UInt8), .int .i64 0, .int .i64 0], [.int .i64 2, .str s6, .int .i64 0, .int .i64 0]] ?_ ?_
          · refine st ?_
            simp
          refine awp_ret ?_
          refine ret_seq ?_
          refine ret_seq ?_
          obtain rfl := Option.some.inj h
          simp
        · have c33 := ltF g31
          refine condF rfl g31 ?_
          refine awp_skip ?_
          refine seq_eq ?_
          refine cut 113 0 [(2, .mptr 0 0), (3, .int .i64 v2), (4, .int .i64 0), (5, .int .i64 0)] [[.int .i64 2, .str s6, .int .i64 0, .int .i64 0], [.int .i64 2, .str s6, .int .i64 0, .int .i64 0]] ?_ ?_
          · refine st ?_
            simp
          refine awp_ret ?_
          refine ret_seq ?_
          obtain rfl := Option.some.inj h
          simp
  · have c36 := ltF g4
    refine condF rfl g4 ?_
    refine awp_skip ?_
    refine seq_eq ?_
    refine awp_seq ?_
    refine awp_block ?_
    obtain ⟨c37, q38, h⟩ := bs h
    refine cut 113 0 [(0, .str a1), (2, .mptr 0 0), (36, .bool (eqI (c37.toNat : Int) 39))] [[.int .i64 0, .str ([] : List UInt8), .int .i64 0, .int .i64 0]] ?_ ?_
    · refine st ?_
      simp [q38]
    rcases sp h with ⟨g39, h⟩ | ⟨g39, h⟩
    · have c40 := eqT g39
      refine condT rfl g39 ?_
      obtain ⟨s41, q42, h⟩ := bs h
      obtain ⟨q43, q44⟩ := subC_ok q42
      try simp at q43
      try simp at q44
      obtain ⟨v45, q46, h⟩ := bs h
      refine cut 113 0 [(0, .str a1), (2, .mptr 0 0), (8, .int .i64 v45)] [[.int .i64 0, .str ([] : List UInt8), .int .i64 0, .int .i64 0]] ?_ ?_
      · refine st ?_
        simp [q43, q44]
        have r72 := ref02_names_ok fuel s41 v45 q46
        try simp [q43, q44] at r72
        refine callPure r72 (by simp) rfl ?_
        simp [q43, q44]
      refine awp_seq ?_
      obtain ⟨b54, q55, h⟩ := bs h
      refine cut 113 0 [(0, .str a1), (2, .mptr 0 0), (8, .int .i64 v45), (50, .bool b54)] [[.int .i64 0, .str ([] : List UInt8), .int .i64 0, .int .i64 0]] ?_ ?_
      · rcases sp q55 with ⟨g47, q55⟩ | ⟨g47, q55⟩
        · have c48 := eqT g47
          obtain rfl := Option.some.inj q55
          refine st ?_
          simp [g47]
        · have c49 := eqF g47
          obtain ⟨c50, q51, q55⟩ := bs q55
          obtain ⟨v52, q53, q55⟩ := bs q55
          obtain rfl := Option.some.inj q55
          refine st ?_
          simp [g47, q51]
          have r71 := ref02_Small_ok c50 v52 q53
          try simp [g47, q51] at r71
          refine callPure r71 (by simp) rfl ?_
          simp [g47, q51]
      rcases sp h with ⟨g56, h⟩ | ⟨g56, h⟩
      · refine condT rfl g56 ?_
        refine cut 113 0 [(2, .mptr 0 0), (3, .int .i64 0), (4, .int .i64 3), (5, .int .i64 0)] [[.int .i64 0, .str ([] : List UInt8), .int .i64 0, .int .i64 0]] ?_ ?_
        · refine st ?_
          simp
        refine awp_ret ?_
        refine ret_seq ?_
        refine ret_blk ?_
        refine ret_seq ?_
        obtain rfl := Option.some.inj h
        simp
      · refine condF rfl g56 ?_
        refine awp_skip ?_
        refine seq_eq ?_
        refine awp_seq ?_
        obtain ⟨n57, q58, h⟩ := bs h
        obtain ⟨q59, q60⟩ := chk_ok q58
        try simp at q59
        try simp at q60
        have c61 := q59; simp only [Rng, inR] at c61
        refine cut 113 0 [(0, .str a1), (2, .mptr 0 0), (8, .int .i64 v45), (54, .bool (ltI 24 n57))] [[.int .i64 0, .str ([] : List UInt8), .int .i64 0, .int .i64 0]] ?_ ?_
        · refine st ?_
          simp [q59, q60]
        rcases sp h with ⟨g62, h⟩ | ⟨g62, h⟩
        · have c63 := ltT g62
          refine condT rfl g62 ?_
          refine cut 113 0 [(2, .mptr 0 0), (3, .int .i64 0), (4, .int .i64 5), (5, .int .i64 0)] [[.int .i64 0, .str ([] : List UInt8), .int .i64 0, .int .i64 0]] ?_ ?_
          · refine st ?_
            simp
          refine awp_ret ?_
          refine ret_seq ?_
          refine ret_blk ?_
          refine ret_seq ?_
          obtain rfl := Option.some.inj h
          simp
        · have c64 := ltF g62
          refine condF rfl g62 ?_
          refine awp_skip ?_
          refine seq_eq ?_
          have c65 := q59; simp only [Rng, inR] at c65
          obtain ⟨s66, q67, h⟩ := bs h
          obtain ⟨q68, q69⟩ := subC_ok q67
          try simp at q68
          try simp at q69
          have c70 := q59; simp only [Rng, inR] at c70
          refine cut 113 0 [(2, .mptr 0 0), (3, .int .i64 n57), (4, .int .i64 0), (5, .int .i64 0)] [[.int .i64 3, .str s66, .int .i64 0, .int .i64 0]] ?_ ?_
          · refine st ?_
            simp [q59, q60, q68, q69]
          refine awp_ret ?_
          refine ret_blk ?_
          refine ret_seq ?_
          obtain rfl := Option.some.inj h
          simp
    · have c73 := eqF g39
      refine condF rfl g39 ?_
      obtain ⟨v74, q75, h⟩ := bs h
      refine cut 113 0 [(0, .str a1), (2, .mptr 0 0), (63, .bool v74)] [[.int .i64 0, .str ([] : List UInt8), .int .i64 0, .int .i64 0]] ?_ ?_
      · refine st ?_
        simp [q38]
        have r123 := ref02_Digit_ok c37 v74 q75
        try simp [q38] at r123
        refine callPure r123 (by simp) rfl ?_
        simp [q38]
      rcases sp h with ⟨g76, h⟩ | ⟨g76, h⟩
      · refine condT rfl g76 ?_
        refine cut 113 0 [(0, .str a1), (2, .mptr 0 0), (9, .int .i64 0)] [[.int .i64 0, .str ([] : List UInt8), .int .i64 0, .int .i64 0]] ?_ ?_
        · refine st ?_
          simp
        refine awp_seq ?_
        refine awp_block ?_
        obtain ⟨o78, l79, h⟩ := bs h
        refine awp_inv (fun p : Nat × Int => mkS 113 0 [(0, .str a1), (2, .mptr 0 0), (9, .int .i64 p.2)] [[.int .i64 0, .str ([] : List UInt8), .int .i64 0, .int .i64 0]]) (fun p => M.ref02_Next_l1 a1 p.1 p.2 = some o78 ∧ 0 ≤ p.2) (fun p => p.1) (fuel, 0) ⟨l79, by (try dsimp only); omega⟩ (le_mkS (by simp)) ?_
        rintro ⟨k81, i77⟩ ⟨l79, c80⟩
        dsimp only at l79 c80 ⊢
        cases k81 with
        | zero =>
          rw [M.ref02_Next_l1] at l79; cases l79
        | succ k82 =>
          rw [M.ref02_Next_l1] at l79
          refine awp_seq ?_
          obtain ⟨b94, q95, l79⟩ := bs l79
          refine cut 113 0 [(0, .str a1), (2, .mptr 0 0), (9, .int .i64 i77), (76, .bool b94)] [[.int .i64 0, .str ([] : List UInt8), .int .i64 0, .int .i64 0]] ?_ ?_
          · rcases sp q95 with ⟨g83, q95⟩ | ⟨g83, q95⟩
            · have c84 := ltT g83
              refine factS 0 rfl fun f85 => ?_
              obtain ⟨c86, q87, q95⟩ := bs q95
              obtain ⟨q88, q89⟩ := idx_ok q87
              obtain ⟨v90, q91, q95⟩ := bs q95
              obtain rfl := Option.some.inj q95
              refine st ?_
              simp [g83, q88, q89]
              have r110 := ref02_Digit_ok c86 v90 q91
              try simp [g83, q88, q89] at r110
              refine callPure r110 (by simp) rfl ?_
              simp [g83, q88, q89]
            · have c92 := ltF g83
              refine factS 0 rfl fun f93 => ?_
              obtain rfl := Option.some.inj q95
              refine st ?_
              simp [g83]
          rcases sp l79 with ⟨g96, l79⟩ | ⟨g96, l79⟩
          · refine condT rfl g96 ?_
            refine awp_skip ?_
            refine seq_eq ?_
            refine awp_block ?_
            obtain ⟨n97, q98, l79⟩ := bs l79
            obtain ⟨q99, q100⟩ := chk_ok q98
            try simp at q99
            try simp at q100
            have c101 := q99; simp only [Rng, inR] at c101
            refine last 113 0 [(0, .str a1), (2, .mptr 0 0), (9, .int .i64 n97)] [[.int .i64 0, .str ([] : List UInt8), .int .i64 0, .int .i64 0]] ?_ fun zz hs => ?_
            · refine st ?_
              simp [q99, q100]
            refine blk_n ?_
            exact ⟨(k82, n97), hs, ⟨l79, by (try dsimp only); omega⟩, by simp⟩
          · refine condF rfl g96 ?_
            refine awp_exit ?_
            refine exit_seq ?_
            have q102 := Option.some.inj l79
            have q102 := q102.symm
            refine exit_seq ?_
            refine exit_blk ?_
            refine seq_le (t := mkS 113 0 [(0, .str a1), (2, .mptr 0 0), (9, .int .i64 o78)] [[.int .i64 0, .str ([] : List UInt8), .int .i64 0, .int .i64 0]]) ?_ (le_mkS (by simp [q102]))
            obtain ⟨s103, q104, h⟩ := bs h
            obtain ⟨q105, q106⟩ := subC_ok q104
            try simp at q105
            try simp at q106
            obtain ⟨v107, q108, h⟩ := bs h
            refine cut 113 0 [(2, .mptr 0 0), (3, .int .i64 o78), (4, .int .i64 v107), (5, .int .i64 0)] [[.int .i64 4, .str s103, .int .i64 0, .int .i64 0]] ?_ ?_
            · refine awp_region_draw [0] mixed (n := 113) rfl (by decide) ?_
              simp [q105, q106]
              have r109 := ref02_Number_ok fuel s103 v107 q108
              try simp [q105, q106] at r109
              refine callD r109 (by simp) rfl ?_
              simp [q105, q106]
            refine awp_ret ?_
            refine ret_blk ?_
            refine ret_seq ?_
            obtain rfl := Option.some.inj h
            simp
      · refine condF rfl g76 ?_
        refine cut 113 0 [(0, .str a1), (2, .mptr 0 0), (88, .bool (eqI (c37.toNat : Int) 34))] [[.int .i64 0, .str ([] : List UInt8), .int .i64 0, .int .i64 0]] ?_ ?_
        · refine st ?_
          simp [q38]
        rcases sp h with ⟨g111, h⟩ | ⟨g111, h⟩
        · have c112 := eqT g111
          refine condT rfl g111 ?_
          obtain ⟨v113, q114, h⟩ := bs h
          refine cut 113 0 [(2, .mptr 0 0), (10, .str v113.1), (11, .int .i64 v113.2.1), (12, .int .i64 v113.2.2.1), (13, .int .i64 v113.2.2.2)] [[.int .i64 0, .str ([] : List UInt8), .int .i64 0, .int .i64 0]] ?_ ?_
          · refine st ?_
            simp
            have r115 := ref02_literal_ok fuel a1 v113 q114
            try simp [] at r115
            refine callPure r115 (by simp) rfl ?_
            simp
          refine cut 113 0 [(2, .mptr 0 0), (3, .int .i64 v113.2.1), (4, .int .i64 v113.2.2.1), (5, .int .i64 v113.2.2.2)] [[.int .i64 5, .str v113.1, .int .i64 0, .int .i64 0]] ?_ ?_
          · refine st ?_
            simp
          refine awp_ret ?_
          refine ret_blk ?_
          refine ret_seq ?_
          obtain rfl := Option.some.inj h
          simp
        · have c116 := eqF g111
          refine condF rfl g111 ?_
          refine awp_skip ?_
          refine blk_n ?_
          refine seq_eq ?_
          refine awp_seq ?_
          obtain ⟨v117, q118, h⟩ := bs h
          refine cut 113 0 [(2, .mptr 0 0), (14, .str v117)] [[.int .i64 0, .str ([] : List UInt8), .int .i64 0, .int .i64 0]] ?_ ?_
          · refine st ?_
            simp
            have r122 := ref02_Symbol_ok fuel a1 v117 q118
            try simp [] at r122
            refine callPure r122 (by simp) rfl ?_
            simp
          refine cut 113 0 [(2, .mptr 0 0), (14, .str v117), (107, .bool (!(eqS v117 ([] : List UInt8))))] [[.int .i64 0, .str ([] : List UInt8), .int .i64 0, .int .i64 0]] ?_ ?_
          · refine st ?_
            simp
          rcases sp h with ⟨g119, h⟩ | ⟨g119, h⟩
          · have g120 := notT g119
            refine condT rfl g119 ?_
            refine cut 113 0 [(2, .mptr 0 0), (3, .int .i64 (v117.length : Int)), (4, .int .i64 0), (5, .int .i64 0)] [[.int .i64 7, .str v117, .int .i64 0, .int .i64 0]] ?_ ?_
            · refine st ?_
              simp
            refine awp_ret ?_
            refine ret_seq ?_
            obtain rfl := Option.some.inj h
            simp
          · have g121 := notF g119
            refine condF rfl g119 ?_
            refine awp_skip ?_
            refine seq_eq ?_
            refine cut 113 0 [(2, .mptr 0 0), (3, .int .i64 0), (4, .int .i64 3), (5, .int .i64 0)] [[.int .i64 0, .str ([] : List UInt8), .int .i64 0, .int .i64 0]] ?_ ?_
            · refine st ?_
              simp
            refine awp_ret ?_
            obtain rfl := Option.some.inj h
            simp
end Go.Proofs.Ythbjlmoaceaeeaa
