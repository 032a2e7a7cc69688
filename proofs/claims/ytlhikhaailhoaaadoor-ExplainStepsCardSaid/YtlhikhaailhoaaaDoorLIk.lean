/- For every input the law ExplainSteps returns true. Part 11 of 15. No condition. -/
import Derived.Test.YtlhikhaailhoaaaDoorLIj
import Derived.Lib.Builder
import Derived.Lib.UnsafeStr
import Derived.Laws.Externs
set_option linter.unusedVariables false
set_option linter.unusedSimpArgs false
set_option maxRecDepth 100000
namespace Go.Proofs.YtlhikhaailhoaaaDoor
open Go Go.Abs Go.Proofs
set_option maxHeartbeats 1000000 in
theorem copyCheck_used (b : Nat) (w : World) (h0 : w.cell? ⟨b, 0, none⟩ = some (.pointer (some ⟨b, 0, none⟩))) :
    Calls Tryd.prog 44 #[.pointer (some ⟨b, 0, none⟩)] w fun e w' => e = .returned (.tuple #[]) ∧ w' = w := by
  go_enter Tryd.func44, Tryd.ntmps44
  go_wp2
  rw [Lib.run_neq_ptr_same w _ Tryd.underlying58 (show Tryd.prog.info? 61 = some Tryd.t61 from rfl)]
  go_wp2
  go_end0
  exact ⟨rfl, rfl⟩
set_option maxHeartbeats 1000000 in
theorem copyCheck_fresh (b : Nat) (w : World) (h0 : w.cell? ⟨b, 0, none⟩ = some (.pointer none)) (hsh : w.shape? b = some (61, 2)) (hfz : w.frozen? ⟨b, 0, none⟩ = false) :
    Calls Tryd.prog 44 #[.pointer (some ⟨b, 0, none⟩)] w fun e w' => e = .returned (.tuple #[]) ∧ w' = w.setCell ⟨b, 0, none⟩ (.pointer (some ⟨b, 0, none⟩)) := by
  have hj : Tryd.prog.info? 61 = some Tryd.t61 := rfl
  go_enter Tryd.func44, Tryd.ntmps44
  go_wp2
  rw [Lib.run_to_unsafe w ⟨b, 0, none⟩ Tryd.underlying58 Tryd.underlying81 hj (by decide) hsh (Nat.zero_lt_succ 1)]
  simp only [Result.andThen]
  rw [Oper.upon_value]
  go_wp2
  rw [run_callFunc_extern Tryd.func57 (by kernel_rfl) (by kernel_rfl) (by kernel_rfl) (e := Extern.AbiNoEscape.same) (by kernel_rfl)]
  rw [Lib.run_noEscape]
  simp only [Result.andThen]
  rw [Oper.upon_value]
  go_wp2
  rw [Lib.run_from_unsafe w ⟨b, 0, none⟩ Tryd.underlying81 Tryd.underlying58 hj hsh (by kernel_rfl)]
  simp only [Result.andThen]
  rw [Oper.upon_value]
  go_wp2
  go_end0
  exact ⟨rfl, rfl⟩
theorem setSelf {g : Gh} {bs : List (List AV)} {w : World} (h : Sto g bs w) {i k ty : Nat} {rest : List AV} (hb0 : bs[i]? = some (.baddr ty i :: rest)) (hk0 : g.σ[i]? = some k) :
    Sto g bs (w.setCell ⟨k, 0, none⟩ (.pointer (some ⟨k, 0, none⟩))) := by
  have hkm : k ∈ g.σ := List.mem_of_getElem? hk0
  have hblock : ∀ j, j ≠ k → (w.setCell ⟨k, 0, none⟩ (.pointer (some ⟨k, 0, none⟩))).heap[j]? = w.heap[j]? := fun j hj => RowKit.Below.heap_setCell _ _ _ _ hj
  refine { h with
    imm := fun y u hy => ?_
    blk := fun i' blk k' hb hk' => ?_
    ownσ := fun p k' hk' => by simpa using h.ownσ p k' hk' }
  · rw [World.cell?_setCell_other _ _ _ _ (fun e => h.immσ y u hy (by rw [← e]; exact hkm))]; exact h.imm y u hy
  · obtain ⟨c, ty', h1, h2, h3⟩ := h.blk i' blk k' hb hk'
    by_cases hi : i' = i
    · subst hi
      rw [hb0] at hb; cases hb
      rw [hk0] at hk'; cases hk'
      refine ⟨c.setIfInBounds 0 (.pointer (some ⟨k, 0, none⟩)), ty', ?_, by simpa using h2, fun j y hy => ?_⟩
      · simp only [World.setCell, Array.getElem?_modify, if_true]
        rw [h1]; rfl
      · obtain ⟨h5, h6, h7⟩ := h3 j y hy
        rw [getD_set_eq]
        cases j with
        | zero =>
          simp only [List.length_cons] at h2
          rw [if_pos ⟨rfl, by omega⟩]
          simp at hy; subst hy
          exact ⟨h5, .baddr _ _ _ hk0, OwnsBy.of_not rfl⟩
        | succ j =>
          rw [if_neg (fun e => by have := e.1; omega)]
          exact ⟨h5, h6, h7.world (fun _ _ _ _ hs => hs.setCell) shape_setCell⟩
    · refine ⟨c, ty', ?_, h2, fun j x hx => ?_⟩
      · rw [hblock k' (fun e => ?_)]
        · exact h1
        · subst e
          obtain ⟨l1, e1⟩ := List.getElem?_eq_some_iff.1 hk'; obtain ⟨l2, e2⟩ := List.getElem?_eq_some_iff.1 hk0
          exact hi (nodup_inj h.nodup l1 l2 (by rw [e1, e2]))
      · obtain ⟨h5, h6, h7⟩ := h3 j x hx
        exact ⟨h5, h6, h7.world (fun _ _ _ _ hs => hs.setCell) shape_setCell⟩
theorem copyCheck_raw (x : AV) : Raw Tryd.prog 44 [.mptr 0 0] [[.baddr 61 0, x]] (.tup []) [[.baddr 61 0, x]] := by
  have hb : ([[.baddr 61 0, x]] : List (List AV))[0]? = some [.baddr 61 0, x] := rfl
  generalize ([[.baddr 61 0, x]] : List (List AV)) = bs at hb
  refine ⟨⟨_, Tryd.func44, rfl, rfl⟩, fun g w vals hs h0 ha => ?_⟩
  obtain ⟨hsz, hv⟩ := ha
  have hv0 := hv 0 _ rfl
  obtain ⟨v0, rfl⟩ := Array.size_eq_one_iff.1 hsz
  cases hv0' : (#[v0] : Array Value).getD 0 undef with
  | pointer p =>
    rw [hv0'] at hv0
    cases hv0 with
    | mptr _ _ k hk =>
      have : v0 = .pointer (some ⟨k, 0, none⟩) := hv0'
      subst this
      obtain ⟨c, ty, h1, h2, h3⟩ := hs.blk 0 _ k hb hk
      obtain ⟨h5, h6, h7⟩ := h3 0 _ rfl
      have hty : ty = 61 := by
        rcases h5 with h5 | ⟨b, h5⟩
        · cases h5
        · cases h5; rfl
      subst hty
      have hc0 := cell_of_block h1 0 (by rw [h2]; exact Nat.zero_lt_succ _)
      have hkm : k ∈ g.σ := List.mem_of_getElem? hk
      generalize c.getD 0 undef = u at h6 hc0
      cases h6 with
      | baddr0 _ _ _ =>
        refine (copyCheck_fresh k w hc0 (by unfold World.shape?; rw [h1]; show some (61, c.size) = _; rw [h2]; rfl) (cells_of_frozen h1 0)).mono ?_
        rintro e w' ⟨rfl, rfl⟩
        refine ⟨g, _, rfl, .tup [] #[] rfl (by simp), setSelf hs hb hk, ?_, h0⟩
        have h8 := Ext.refl' w g (fun k hk => hs.σ_lt hk) h0
        exact { h8 with
          keep := fun j hj hT => by
            rw [RowKit.Below.heap_setCell _ _ _ _ (fun e => ?_)]
            subst e
            exact hT (.inl hkm)
          size := by simp
          os := h8.os
          tape := h8.tape
          output := h8.output }
      | baddr _ _ k' hk' =>
        rw [hk] at hk'; cases hk'
        refine (copyCheck_used k w hc0).mono ?_
        rintro e w' ⟨rfl, rfl⟩
        exact ⟨g, _, rfl, .tup [] #[] rfl (by simp), hs, Ext.refl' w' g (fun k hk => hs.σ_lt hk) h0, h0⟩
  | _ => rw [hv0'] at hv0; cases hv0
theorem strings_Builder_copyCheck_ok (b : List UInt8) (r : Unit) (h : M.strings_Builder_copyCheck b = some r) :
    Raw Tryd.prog 44 [.mptr 0 0] [[.baddr 61 0, .osl ⟨1, 5⟩ (b.map cU)]] (.tup []) [[.baddr 61 0, .osl ⟨1, 5⟩ (b.map cU)]] := copyCheck_raw _
section
variable (b : Nat) (w : World)
theorem us_none (p : Option Addr) (w : World) : (Builtin.unsafeString_ #[73, 3] 9 #[.pointer p, .int .i64 0]).run Tryd.prog w = .ok (.string ⟨#[]⟩) w := Lib.run_unsafeString_none w _ _ _ p
set_option maxHeartbeats 2000000 in
set_option maxRecDepth 100000 in
theorem string_nil (h0 : w.cell? ⟨b, 1, none⟩ = some (.slice none 0 0)) :
    Calls Tryd.prog 34 #[.pointer (some ⟨b, 0, none⟩)] w fun e w' => e = .returned (.string ⟨#[]⟩) ∧ w' = w.drew := by
  have c1 : w.drew.cell? ⟨b, 1, none⟩ = some (.slice none 0 0) := h0
  have hUS := us_none
  have hSD : (Builtin.unsafeSliceData_ #[59] 73 #[.slice none 0 0]).run Tryd.prog w.drew = .ok (.pointer none) w.drew := rfl
  go_enter Tryd.func34, Tryd.ntmps34
  go_wp2
  go_region
  all_goals (go_wp2; go_ret; exact ⟨rfl, rfl⟩)
set_option maxHeartbeats 2000000 in
set_option maxRecDepth 100000 in
theorem string_room (a : Addr) (k : Nat) (h0 : w.cell? ⟨b, 1, none⟩ = some (.slice (some a) 0 (k + 1))) :
    Calls Tryd.prog 34 #[.pointer (some ⟨b, 0, none⟩)] w fun e w' => e = .returned (.string ⟨#[]⟩) ∧ w' = w.drew := by
  have c1 : w.drew.cell? ⟨b, 1, none⟩ = some (.slice (some a) 0 (k + 1)) := h0
  have hUS := us_none
  have hSD : (Builtin.unsafeSliceData_ #[59] 73 #[.slice (some a) 0 (k + 1)]).run Tryd.prog w.drew = .ok (.pointer (some a)) w.drew := rfl
  go_enter Tryd.func34, Tryd.ntmps34
  go_wp2
  go_region
  all_goals (go_wp2; go_ret; exact ⟨rfl, rfl⟩)
set_option maxHeartbeats 2000000 in
set_option maxRecDepth 100000 in
theorem string_noroom (a : Addr) (sh : TypeId × Nat) (hsh : w.shape? a.block = some sh) (h0 : w.cell? ⟨b, 1, none⟩ = some (.slice (some a) 0 0)) (hlt : b < w.heap.size) :
    Calls Tryd.prog 34 #[.pointer (some ⟨b, 0, none⟩)] w fun e w' => e = .returned (.string ⟨#[]⟩) ∧ w' = (w.alloc (.view a 5)).drew := by
  have c1 : w.drew.cell? ⟨b, 1, none⟩ = some (.slice (some a) 0 0) := h0
  have hUS := us_none
  have hSD : (Builtin.unsafeSliceData_ #[59] 73 #[.slice (some a) 0 0]).run Tryd.prog w.drew = .ok (.pointer (some ⟨w.drew.heap.size, 0, none⟩)) (w.drew.alloc (.view a 5)) :=
    Lib.run_unsafeSliceData_zero w.drew _ _ 5 Tryd.underlying73 a 0 sh hsh
  have c3 : (w.alloc (.view a 5)).drew.cell? ⟨b, 1, none⟩ = some (.slice (some a) 0 0) := by
    show (w.alloc (.view a 5)).cell? ⟨b, 1, none⟩ = _
    rw [World.cell?_alloc_lt _ _ _ hlt]; exact h0
  have c2 : (w.drew.alloc (.view a 5)).cell? ⟨b, 1, none⟩ = some (.slice (some a) 0 0) := c3
  go_enter Tryd.func34, Tryd.ntmps34
  go_wp2
  go_region
  all_goals (go_wp2; go_ret; exact ⟨rfl, rfl⟩)
set_option maxHeartbeats 2000000 in
set_option maxRecDepth 100000 in
theorem string_some (q cells : Nat) (l : List UInt8) (cap : Nat) (h1 : l ≠ []) (hlc : l.length ≤ cap) (hn : l.length ≤ cells) (h63 : l.length ≤ 9223372036854775807) (hsh : w.shape? q = some (5, cells))
    (h0 : w.cell? ⟨b, 1, none⟩ = some (.slice (some ⟨q, 0, none⟩) l.length cap)) (hcell : ∀ j x, l[j]? = some x → w.cell? ((⟨q, 0, none⟩ : Addr).add j) = some (.int .u8 x.toNat)) :
    Calls Tryd.prog 34 #[.pointer (some ⟨b, 0, none⟩)] w fun e w' => e = .returned (.string ⟨l.toArray⟩) ∧ w' = w.drew.freeze ⟨q, 0, none⟩ l.length := by
  have c1 : w.drew.cell? ⟨b, 1, none⟩ = some (.slice (some ⟨q, 0, none⟩) l.length cap) := h0
  have hpos : l.length ≠ 0 := by simpa using h1
  have hSD : (Builtin.unsafeSliceData_ #[59] 73 #[.slice (some ⟨q, 0, none⟩) l.length cap]).run Tryd.prog w.drew = .ok (.pointer (some ⟨q, 0, none⟩)) w.drew :=
    Lib.run_unsafeSliceData_row w.drew _ _ _ _ _ (by omega)
  have hUS : (Builtin.unsafeString_ #[73, 3] 9 #[.pointer (some ⟨q, 0, none⟩), .int .i64 l.length]).run Tryd.prog w.drew = .ok (.string ⟨l.toArray⟩) (w.drew.freeze ⟨q, 0, none⟩ l.length) :=
    Lib.run_unsafeString_row w.drew 73 3 9 5 Tryd.underlying73 (by kernel_rfl) q cells hsh l h1 hn h63 hcell
  clear h1 hpos hlc hn h63 hcell
  generalize hw : w.drew.freeze ⟨q, 0, none⟩ l.length = wf at hUS ⊢
  go_enter Tryd.func34, Tryd.ntmps34
  go_wp2
  go_region
  all_goals (go_wp2; go_ret; exact ⟨rfl, rfl⟩)
end
theorem Sto.move {g : Gh} {bs : List (List AV)} {w w' : World} (h : Sto g bs w) (hc : ∀ a v, w.cell? a = some v → w'.cell? a = some v) (hb : ∀ k, k ∈ g.σ → w'.heap[k]? = w.heap[k]?) (hsz : w.heap.size ≤ w'.heap.size)
    (hown : ∀ (i j k : Nat) c ty blk x, bs[i]? = some blk → g.σ[i]? = some k → w.heap[k]? = some (.cells c ty (0, 0)) → blk[j]? = some x → OwnsBy g.imm w (g.own (.cell i j)) x (c.getD j undef) → OwnsBy g.imm w' (g.own (.cell i j)) x (c.getD j undef)) :
    Sto g bs w' := { h with
  imm := fun x v hx => hc _ _ (h.imm x v hx)
  blk := fun i blk k h1 h2 => by
    obtain ⟨c, ty, q1, q2, q3⟩ := h.blk i blk k h1 h2
    refine ⟨c, ty, by rw [hb k (List.mem_of_getElem? h2)]; exact q1, q2, fun j x hx => ?_⟩
    obtain ⟨r1, r2, r3⟩ := q3 j x hx
    exact ⟨r1, r2, hown i j k c ty blk x h1 h2 q1 hx r3⟩
  ownσ := fun p k hp => ⟨(h.ownσ p k hp).1, Nat.lt_of_lt_of_le (h.ownσ p k hp).2 hsz⟩ }
theorem sto_drew {g : Gh} {bs : List (List AV)} {w : World} (h : Sto g bs w) : Sto g bs w.drew :=
  Sto.move h (fun _ _ h => h) (fun _ _ => rfl) (Nat.le_refl _) fun _ _ _ _ _ _ _ _ _ _ _ h => h
theorem rowSh_shape {w : World} {k : Nat} {sh : TypeId × Nat} (h : rowSh w k = some sh) : w.shape? k = some sh := by
  unfold rowSh at h; unfold World.shape?
  split at h
  · rename_i c ty fr e; rw [e]
    split at h
    · exact h
    · cases h
  · cases h
theorem heap_freeze (w : World) (q n k : Nat) (h : k ≠ q) : (w.freeze ⟨q, 0, none⟩ n).heap[k]? = w.heap[k]? := by
  unfold World.freeze
  split
  · rfl
  · simp only [Array.getElem?_modify]; rw [if_neg (fun e => h e.symm)]
theorem freeze_at {w : World} {q n : Nat} {c : Array Value} {ty : TypeId} {fr : Nat × Nat} (h : w.heap[q]? = some (.cells c ty fr)) (hn : n ≠ 0) :
    (w.freeze ⟨q, 0, none⟩ n).heap[q]? = some (.cells c ty (if fr.1 == fr.2 then (0, n) else (0, max fr.2 n))) := by
  unfold World.freeze
  rw [if_neg hn]
  simp only [Array.getElem?_modify, if_true, h, Option.map_some]
  obtain ⟨lo, hi⟩ := fr
  simp
theorem strings_Builder_String_ok (b : List UInt8) (r : List UInt8) (h : M.strings_Builder_String b = some r) :
    Raw Tryd.prog 34 [.mptr 0 0] [[.baddr 61 0, .osl ⟨1, 5⟩ (b.map cU)]] (.str r) [[.baddr 61 0, .osl ⟨1, 5⟩ (b.map cU)]] := by
  obtain rfl := Option.some.inj h
  refine ⟨⟨_, Tryd.func34, rfl, rfl⟩, fun g w vals hs h0 ha => ?_⟩
  obtain ⟨hsz, hv⟩ := ha
  have hv0 := hv 0 _ rfl
  obtain ⟨v0, rfl⟩ := Array.size_eq_one_iff.1 hsz
  cases hv0' : (#[v0] : Array Value).getD 0 undef with
  | pointer p =>
    rw [hv0'] at hv0
    cases hv0 with
    | mptr _ _ k hk =>
      have : v0 = .pointer (some ⟨k, 0, none⟩) := hv0'
      subst this
      obtain ⟨c, ty, h1, h2, h3⟩ := hs.blk 0 _ k rfl hk
      obtain ⟨h5, h6, h7⟩ := h3 1 _ rfl
      have hc1 := cell_of_block h1 1 (by rw [h2]; exact Nat.lt_succ_self _)
      have hkl := hs.σ_lt (List.mem_of_getElem? hk)
      have hrefl := Ext.refl' w g (fun k hk => hs.σ_lt hk) h0
      have hext : ∀ w' : World, (∀ k, k < w.heap.size → ¬ Fx.T ⟨w, g⟩ k → w'.heap[k]? = w.heap[k]?) → w.heap.size ≤ w'.heap.size → w'.os = w.os → w'.tape = w.tape → w'.output = w.output → Ext ⟨w, g⟩ g w' := fun w' p1 p2 p3 p4 p5 =>
        { hrefl with keep := p1, size := p2, os := p3, tape := p4, output := p5 }
      have hstr : b.length ≤ 281474976710656 → Rep g.imm g.σ (.str b) (.string ⟨b.toArray⟩) := fun hl => .str _ _ (by simp) (by omega)
      generalize hcv : c.getD 1 undef = u at h6 h7 hc1
      cases h6' : b with
      | nil =>
        subst h6'
        have hrs : Rep g.imm g.σ (.str []) (.string ⟨#[]⟩) := hstr (by simp)
        cases h6 with
        | osl0 _ =>
          refine (string_nil k w hc1).mono ?_
          rintro e w' ⟨rfl, rfl⟩
          exact ⟨g, _, rfl, hrs, sto_drew hs, hext _ (fun _ _ _ => rfl) (Nat.le_refl _) rfl rfl rfl, h0⟩
        | osl _ _ a n cap vs hn hcap hbd he hi hr =>
          have hn0 : n = 0 := by simpa using hn
          subst hn0
          cases cap with
          | succ cap =>
            refine (string_room k w a cap hc1).mono ?_
            rintro e w' ⟨rfl, rfl⟩
            exact ⟨g, _, rfl, hrs, sto_drew hs, hext _ (fun _ _ _ => rfl) (Nat.le_refl _) rfl rfl rfl, h0⟩
          | zero =>
            rcases h7 _ _ _ rfl with h8 | ⟨a', h8, h9, ⟨ha1, ha2, m, h10, h11⟩, h12⟩
            · cases h8
            · cases h8
              refine (string_noroom k w a _ (rowSh_shape h10) hc1 hkl).mono ?_
              rintro e w' ⟨rfl, rfl⟩
              refine ⟨g, _, rfl, hrs, sto_drew (Sto.move hs (fun x v hx => ?_) (fun k' hk' => heap_alloc_old w _ (hs.σ_lt hk')) (by simp) fun i j k' c' ty' blk x e1 e2 e3 e4 e5 => ?_), hext _ (fun k' hk' _ => heap_alloc_old w _ hk') (by simp) rfl rfl rfl, h0⟩
              · rw [World.cell?_alloc_lt _ _ _ (World.block_lt_of_cell? _ _ hx)]; exact hx
              · exact e5.world (fun _ _ _ _ hs => hs.alloc (fun _ _ => rfl)) shape_alloc
      | cons x0 b0 =>
        have hne : b ≠ [] := by rw [h6']; simp
        rw [← h6']
        clear h6'
        generalize hl0 : b.map cU = l0 at h6
        cases h6 with
        | osl0 _ => exact absurd (List.map_eq_nil_iff.1 hl0) hne
        | osl _ _ a n cap vs hn hcap hbd he hi hr =>
          subst hl0
          have hn' : n = b.length := by simpa using hn
          subst hn'
          rcases h7 _ _ _ rfl with h8 | ⟨a', h8, h9, ⟨ha1, ha2, m, h10, h11⟩, h12⟩
          · cases h8
          · cases h8
            obtain ⟨q, off, spot⟩ := a
            simp only at ha1 ha2 h9 h10
            subst ha1; subst ha2
            have hpos : b.length ≠ 0 := by simpa using hne
            have hcell : ∀ j x, b[j]? = some x → w.cell? ((⟨q, 0, none⟩ : Addr).add j) = some (.int .u8 x.toNat) := fun j x hx => by
              have e1 : (b.map cU)[j]? = some [.int .u8 x.toNat] := by rw [List.getElem?_map, hx]; rfl
              have e2 := hi j _ e1 0 _ rfl
              have e3 := hr j _ e1 0 _ rfl
              have e4 := hs.imm _ _ e2
              simp only [Nat.mul_one, Nat.add_zero] at e4
              rw [e4]
              generalize vs j 0 = y at e3
              cases e3; rfl
            have hblk : ∃ c' fr, w.heap[q]? = some (.cells c' 5 fr) ∧ (fr.1 = fr.2 ∨ fr.1 = 0) ∧ c'.size = m := by
              unfold rowSh at h10
              split at h10
              · rename_i c' ty' fr e
                split at h10
                · rename_i hfr; cases h10; exact ⟨c', fr, e, hfr, rfl⟩
                · cases h10
              · cases h10
            obtain ⟨c', fr, hq, hfr, hm⟩ := hblk
            have hcm : cap ≤ m := by simpa using h11
            refine (string_some k w q m b cap hne hcap (by omega) (by omega) (rowSh_shape h10) hc1 hcell).mono ?_
            rintro e w' ⟨rfl, rfl⟩
            have hqσ := (hs.ownσ _ q h9).1
            have hfz : ∀ k', k' ≠ q → (w.freeze ⟨q, 0, none⟩ b.length).heap[k']? = w.heap[k']? := fun k' hk' => heap_freeze w q _ k' hk'
            have hfq := freeze_at (n := b.length) hq hpos
            have hsize : (w.freeze ⟨q, 0, none⟩ b.length).heap.size = w.heap.size := by unfold World.freeze; split <;> simp
            have hcells : ∀ x, (w.freeze ⟨q, 0, none⟩ b.length).cell? x = w.cell? x := fun x => by
              unfold World.cell?
              by_cases hx : x.block = q
              · rw [hx, hfq, hq]
              · rw [hfz _ hx]
            have hdrw : w.drew.freeze ⟨q, 0, none⟩ b.length = (w.freeze ⟨q, 0, none⟩ b.length).drew := by
              unfold World.freeze; split <;> rfl
            rw [hdrw]
            refine ⟨g, _, rfl, hstr hbd, sto_drew (Sto.move hs (fun x v hx => by rw [hcells]; exact hx) (fun k' hk' => hfz k' (fun e => hqσ (by rw [← e]; exact hk'))) (by rw [hsize]; exact Nat.le_refl _) fun i j k' c2 ty' blk x e1 e2 e3 e4 e5 => ?_),
              hext _ (fun k' hk' hT => hfz k' (fun e => hT (.inr ⟨0, 1, by rw [e]; exact h9⟩))) (by show _ ≤ (w.freeze ⟨q, 0, none⟩ b.length).heap.size; rw [hsize]; exact Nat.le_refl _) (by show (w.freeze ⟨q, 0, none⟩ b.length).os = _; unfold World.freeze; split <;> rfl)
              (by show (w.freeze ⟨q, 0, none⟩ b.length).tape = _; unfold World.freeze; split <;> rfl) (by show (w.freeze ⟨q, 0, none⟩ b.length).output = _; unfold World.freeze; split <;> rfl), h0⟩
            cases i with
            | succ i => simp at e1
            | zero =>
              simp only [List.getElem?_cons_zero, Option.some.injEq] at e1
              subst e1
              rw [hk] at e2; cases e2
              rw [h1] at e3; cases e3
              cases j with
              | zero => simp only [List.getElem?_cons_zero, Option.some.injEq] at e4; subst e4; exact OwnsBy.of_not rfl
              | succ j =>
                cases j with
                | succ j => simp at e4
                | zero =>
                  simp only [List.getElem?_cons_succ, List.getElem?_cons_zero, Option.some.injEq] at e4
                  subst e4
                  rw [hcv]
                  intro base n cap' hv'
                  cases hv'
                  refine .inr ⟨_, rfl, h9, ⟨rfl, rfl, m, ?_, h11⟩, fun j hj1 hj2 => ?_⟩
                  · unfold rowSh
                    rw [hfq, ← hm]
                    simp only
                    split <;> simp
                  · obtain ⟨p1, p2, p3⟩ := h12 j hj1 hj2
                    refine ⟨p1, by rw [hcells]; exact p2, ?_⟩
                    have hb0 : ((⟨q, 0, none⟩ : Addr).add j).block = q := add_block _ _
                    have ho0 : ((⟨q, 0, none⟩ : Addr).add j).off = j := by rw [add_off]; exact Nat.zero_add j
                    unfold World.frozen? at p3 ⊢
                    rw [hb0, hq] at p3
                    rw [hb0, hfq]
                    rw [ho0] at p3 ⊢
                    simp only [Nat.mul_one] at hj1
                    obtain ⟨lo, hi'⟩ := fr
                    simp only [Bool.and_eq_false_iff, decide_eq_false_iff_not] at p3 hfr
                    by_cases hlo : lo = hi'
                    · rw [if_pos (by simp [hlo])]
                      simp; omega
                    · rw [if_neg (by simp [hlo])]
                      simp; omega
  | _ => rw [hv0'] at hv0; cases hv0
end Go.Proofs.YtlhikhaailhoaaaDoor
set_option linter.unusedVariables false
set_option linter.unusedSimpArgs false
set_option maxRecDepth 100000
set_option maxHeartbeats 1000000
namespace Go.Proofs.YtlhikhaailhoaaaDoor
open Go Go.Abs
theorem ident_of_ok (c1 : UInt8) (r : Int) (h : M.ident_of c1 = some r) : Pure Tryd.prog 64 [.int .u8 (c1.toNat : Int)] (.int .i64 r) := by
  rw [M.ident_of] at h
  refine pure_of_body Tryd.func64 (by rfl) (by rfl) (by simp) (by simp) (by simp) ?_
  refine cut 30 0 [(0, .int .u8 (c1.toNat : Int))] [] ?_ ?_
  · refine st ?_
    simp
  refine awp_seq ?_
  refine awp_block ?_
  refine cut 30 0 [(0, .int .u8 (c1.toNat : Int)), (3, .bool ((leI 97 (c1.toNat : Int)) && (leI (c1.toNat : Int) 122)))] [] ?_ ?_
  · rcases tf (leI 97 (c1.toNat : Int)) with g2 | g2
    · have c3 := leT g2
      refine st ?_
      simp [g2]
    · have c4 := leF g2
      refine st ?_
      simp [g2]
  rcases sp h with ⟨g5, h⟩ | ⟨g5, h⟩
  · obtain ⟨g6, g7⟩ := andT g5
    have c8 := leT g6
    have c9 := leT g7
    refine condT rfl g5 ?_
    refine cut 30 0 [(2, .int .i64 1)] [] ?_ ?_
    · refine st ?_
      simp
    refine awp_ret ?_
    refine ret_blk ?_
    refine ret_seq ?_
    obtain rfl := Option.some.inj h
    simp
  · refine condF rfl g5 ?_
    refine cut 30 0 [(0, .int .u8 (c1.toNat : Int)), (10, .bool ((leI 65 (c1.toNat : Int)) && (leI (c1.toNat : Int) 90)))] [] ?_ ?_
    · rcases tf (leI 65 (c1.toNat : Int)) with g10 | g10
      · have c11 := leT g10
        refine st ?_
        simp [g10]
      · have c12 := leF g10
        refine st ?_
        simp [g10]
    rcases sp h with ⟨g13, h⟩ | ⟨g13, h⟩
    · obtain ⟨g14, g15⟩ := andT g13
      have c16 := leT g14
      have c17 := leT g15
      refine condT rfl g13 ?_
      refine cut 30 0 [(2, .int .i64 2)] [] ?_ ?_
      · refine st ?_
        simp
      refine awp_ret ?_
      refine ret_blk ?_
      refine ret_seq ?_
      obtain rfl := Option.some.inj h
      simp
    · refine condF rfl g13 ?_
      refine cut 30 0 [(0, .int .u8 (c1.toNat : Int)), (17, .bool ((leI 48 (c1.toNat : Int)) && (leI (c1.toNat : Int) 57)))] [] ?_ ?_
      · rcases tf (leI 48 (c1.toNat : Int)) with g18 | g18
        · have c19 := leT g18
          refine st ?_
          simp [g18]
        · have c20 := leF g18
          refine st ?_
          simp [g18]
      rcases sp h with ⟨g21, h⟩ | ⟨g21, h⟩
      · obtain ⟨g22, g23⟩ := andT g21
        have c24 := leT g22
        have c25 := leT g23
        refine condT rfl g21 ?_
        refine cut 30 0 [(2, .int .i64 3)] [] ?_ ?_
        · refine st ?_
          simp
        refine awp_ret ?_
        refine ret_blk ?_
        refine ret_seq ?_
        obtain rfl := Option.some.inj h
        simp
      · refine condF rfl g21 ?_
        refine cut 30 0 [(0, .int .u8 (c1.toNat : Int)), (24, .bool (eqI (c1.toNat : Int) 95))] [] ?_ ?_
        · refine st ?_
          simp
        rcases sp h with ⟨g26, h⟩ | ⟨g26, h⟩
        · have c27 := eqT g26
          refine condT rfl g26 ?_
          refine cut 30 0 [(2, .int .i64 4)] [] ?_ ?_
          · refine st ?_
            simp
          refine awp_ret ?_
          refine ret_blk ?_
          refine ret_seq ?_
          obtain rfl := Option.some.inj h
          simp
        · have c28 := eqF g26
          refine condF rfl g26 ?_
          refine cut 30 0 [(27, .bool (eqI (c1.toNat : Int) 46))] [] ?_ ?_
          · refine st ?_
            simp
          rcases sp h with ⟨g29, h⟩ | ⟨g29, h⟩
          · have c30 := eqT g29
            refine condT rfl g29 ?_
            refine cut 30 0 [(2, .int .i64 5)] [] ?_ ?_
            · refine st ?_
              simp
            refine awp_ret ?_
            refine ret_blk ?_
            refine ret_seq ?_
            obtain rfl := Option.some.inj h
            simp
          · have c31 := eqF g29
            refine condF rfl g29 ?_
            refine awp_skip ?_
            refine blk_n ?_
            refine seq_eq ?_
            refine cut 30 0 [(2, .int .i64 0)] [] ?_ ?_
            · refine st ?_
              simp
            refine awp_ret ?_
            obtain rfl := Option.some.inj h
            simp
end Go.Proofs.YtlhikhaailhoaaaDoor
set_option linter.unusedVariables false
set_option linter.unusedSimpArgs false
set_option maxRecDepth 100000
set_option maxHeartbeats 1000000
namespace Go.Proofs.YtlhikhaailhoaaaDoor
open Go Go.Abs
theorem ident_name_ok (fuel : Nat) (s1 : (List UInt8)) (first2 : Int) (r : Bool) (h : M.ident_name fuel s1 first2 = some r) : Pure Tryd.prog 51 [.str s1, .int .i64 first2] (.bool r) := by
  rw [M.ident_name] at h
  refine pure_of_body Tryd.func51 (by rfl) (by rfl) (by simp) (by simp) (by simp) ?_
  refine cut 38 0 [(0, .str s1), (1, .int .i64 first2)] [] ?_ ?_
  · refine st ?_
    simp
  refine awp_seq ?_
  obtain ⟨b13, q14, h⟩ := bs h
  refine cut 38 0 [(0, .str s1), (21, .bool b13)] [] ?_ ?_
  · rcases sp q14 with ⟨g3, q14⟩ | ⟨g3, q14⟩
    · obtain rfl := Option.some.inj q14
      refine st ?_
      simp [g3]
    · rcases sp q14 with ⟨g4, q14⟩ | ⟨g4, q14⟩
      · have c5 := ltT g4
        refine factS 0 rfl fun f6 => ?_
        obtain rfl := Option.some.inj q14
        refine st ?_
        simp [g3, g4]
      · have c7 := ltF g4
        refine factS 0 rfl fun f8 => ?_
        obtain ⟨c9, q10, q14⟩ := bs q14
        obtain ⟨v11, q12, q14⟩ := bs q14
        obtain rfl := Option.some.inj q14
        refine st ?_
        simp [g3, g4, q10]
        have r46 := ident_of_ok c9 v11 q12
        try simp [g3, g4, q10] at r46
        refine callPure r46 (by simp) rfl ?_
        simp [g3, g4, q10]
  rcases sp h with ⟨g15, h⟩ | ⟨g15, h⟩
  · refine condT rfl g15 ?_
    refine cut 38 0 [(4, .bool false)] [] ?_ ?_
    · refine st ?_
      simp
    refine awp_ret ?_
    refine ret_seq ?_
    obtain rfl := Option.some.inj h
    simp
  · refine condF rfl g15 ?_
    refine awp_skip ?_
    refine seq_eq ?_
    refine awp_seq ?_
    obtain ⟨l16, q17, h⟩ := bs h
    obtain ⟨q18, q19⟩ := bytesC_ok q17
    refine cut 38 0 [(23, .sl (l16.map cU)), (24, .int .i64 (l16.length : Int)), (25, .int .i64 0)] [] ?_ ?_
    · refine st ?_
      simp [q18, q19]
    refine awp_block ?_
    obtain ⟨o22, l23, h⟩ := bs h
    refine awp_inv (fun p : Nat × Nat => mkS 38 0 [(23, .sl (l16.map cU)), (24, .int .i64 (l16.length : Int)), (25, .int .i64 ((p.2 : Nat) : Int))] []) (fun p => M.ident_name_l1 l16 p.1 p.2 = some o22) (fun p => p.1) (fuel, 0) l23 (le_mkS (by simp)) ?_
    rintro ⟨k24, i20⟩ l23
    dsimp only at l23 ⊢
    cases k24 with
    | zero =>
      rw [M.ident_name_l1] at l23; cases l23
    | succ k25 =>
      rw [M.ident_name_l1] at l23
      refine cut 38 0 [(23, .sl (l16.map cU)), (24, .int .i64 (l16.length : Int)), (25, .int .i64 ((i20 : Nat) : Int)), (26, .bool (ltI ((i20 : Nat) : Int) (l16.length : Int)))] [] ?_ ?_
      · refine st ?_
        simp
      refine awp_seq ?_
      rcases sp l23 with ⟨g26, l23⟩ | ⟨g26, l23⟩
      · have c27 := ltT g26
        refine condT rfl g26 ?_
        refine factL 23 rfl fun f28 => ?_
        rw [List.length_map] at f28
        refine awp_skip ?_
        refine seq_eq ?_
        refine awp_seq ?_
        refine awp_block ?_
        obtain ⟨x29, q30, l23⟩ := bs l23
        refine cut 38 0 [(6, .int .u8 (x29.toNat : Int)), (23, .sl (l16.map cU)), (24, .int .i64 (l16.length : Int)), (25, .int .i64 ((i20 : Nat) : Int))] [] ?_ ?_
        · refine st ?_
          simp [q30]
        obtain ⟨v31, q32, l23⟩ := bs l23
        refine cut 38 0 [(7, .int .i64 v31), (23, .sl (l16.map cU)), (24, .int .i64 (l16.length : Int)), (25, .int .i64 ((i20 : Nat) : Int))] [] ?_ ?_
        · refine st ?_
          simp
          have r42 := ident_of_ok x29 v31 q32
          try simp [] at r42
          refine callPure r42 (by simp) rfl ?_
          simp
        refine cut 38 0 [(23, .sl (l16.map cU)), (24, .int .i64 (l16.length : Int)), (25, .int .i64 ((i20 : Nat) : Int)), (36, .bool ((eqI v31 0) || (eqI v31 5)))] [] ?_ ?_
        · rcases tf (eqI v31 0) with g33 | g33
          · have c34 := eqT g33
            refine st ?_
            simp [g33]
          · have c35 := eqF g33
            refine st ?_
            simp [g33]
        rcases sp l23 with ⟨g36, l23⟩ | ⟨g36, l23⟩
        · refine condT rfl g36 ?_
          refine cut 38 0 [(4, .bool false)] [] ?_ ?_
          · refine st ?_
            simp
          refine awp_ret ?_
          refine ret_blk ?_
          refine ret_seq ?_
          replace h := retL l23 h
          refine ret_seq ?_
          refine ret_blk ?_
          refine ret_seq ?_
          obtain rfl := Option.some.inj h
          simp
        · obtain ⟨g37, g38⟩ := orF g36
          have c39 := eqF g37
          have c40 := eqF g38
          refine condF rfl g36 ?_
          refine awp_skip ?_
          refine blk_n ?_
          refine seq_eq ?_
          have q41 : Rng .i64 (((i20 : Nat) : Int) + 1) := by simp only [Rng, inR]; omega
          try simp at q41
          refine last 38 0 [(23, .sl (l16.map cU)), (24, .int .i64 (l16.length : Int)), (25, .int .i64 ((i20 + 1 : Nat) : Int))] [] ?_ fun zz hs => ?_
          · refine st ?_
            simp [q41]
          exact ⟨(k25, i20 + 1), hs, l23, by simp⟩
      · have c43 := ltF g26
        refine condF rfl g26 ?_
        refine factL 23 rfl fun f44 => ?_
        rw [List.length_map] at f44
        refine awp_exit ?_
        refine exit_seq ?_
        rcases o22 with o22 | o21
        · cases l23
        have q45 := Sum.inr.inj (Option.some.inj l23)
        replace h := elimR h
        refine exit_seq ?_
        refine exit_blk ?_
        refine seq_le (t := mkS 38 0 [] []) ?_ (le_mkS (by simp []))
        refine cut 38 0 [(4, .bool true)] [] ?_ ?_
        · refine st ?_
          simp
        refine awp_ret ?_
        obtain rfl := Option.some.inj h
        simp
end Go.Proofs.YtlhikhaailhoaaaDoor
set_option linter.unusedVariables false
set_option linter.unusedSimpArgs false
set_option maxRecDepth 100000
set_option maxHeartbeats 1000000
namespace Go.Proofs.YtlhikhaailhoaaaDoor
open Go Go.Abs
theorem ident_IsUpper_ok (fuel : Nat) (s1 : (List UInt8)) (r : Bool) (h : M.ident_IsUpper fuel s1 = some r) : Pure Tryd.prog 41 [.str s1] (.bool r) := by
  rw [M.ident_IsUpper] at h
  refine pure_of_body Tryd.func41 (by rfl) (by rfl) (by simp) (by simp) (by simp) ?_
  refine cut 5 0 [(0, .str s1)] [] ?_ ?_
  · refine st ?_
    simp
  obtain ⟨v2, q3, h⟩ := bs h
  refine cut 5 0 [(2, .bool v2)] [] ?_ ?_
  · refine st ?_
    simp
    have r4 := ident_name_ok fuel s1 2 v2 q3
    try simp [] at r4
    refine callPure r4 (by simp) rfl ?_
    simp
  refine awp_ret ?_
  obtain rfl := Option.some.inj h
  simp
end Go.Proofs.YtlhikhaailhoaaaDoor
set_option linter.unusedVariables false
set_option linter.unusedSimpArgs false
set_option maxRecDepth 100000
set_option maxHeartbeats 1000000
namespace Go.Proofs.YtlhikhaailhoaaaDoor
open Go Go.Abs
theorem explain_valid_ok (fuel : Nat) (s1 : Api.Step) (r : Bool) (h : M.explain_valid fuel s1 = some r) : Pure Tryd.prog 25 [.agg [.str s1.Unit, .int .i64 s1.Reason.Op, .str s1.Reason.Unit, .bool s1.Compiled, .int .i64 s1.Code, .bool s1.Same]] (.bool r) := by
  rw [M.explain_valid] at h
  refine pure_of_body Tryd.func25 (by rfl) (by rfl) (by simp) (by simp) (by simp) ?_
  refine cut 39 0 [(1, .mptr 0 0)] [[.str s1.Unit, .int .i64 s1.Reason.Op, .str s1.Reason.Unit, .bool s1.Compiled, .int .i64 s1.Code, .bool s1.Same]] ?_ ?_
  · refine st ?_
    simp
  refine cut 39 0 [(1, .mptr 0 0), (3, .mptr 1 0)] [[.str s1.Unit, .int .i64 s1.Reason.Op, .str s1.Reason.Unit, .bool s1.Compiled, .int .i64 s1.Code, .bool s1.Same], [.int .i64 s1.Reason.Op, .str s1.Reason.Unit]] ?_ ?_
  · refine st ?_
    simp
  refine awp_seq ?_
  obtain ⟨b16, q17, h⟩ := bs h
  refine cut 39 0 [(3, .mptr 1 0), (29, .bool b16)] [[.str s1.Unit, .int .i64 s1.Reason.Op, .str s1.Reason.Unit, .bool s1.Compiled, .int .i64 s1.Code, .bool s1.Same], [.int .i64 s1.Reason.Op, .str s1.Reason.Unit]] ?_ ?_
  · obtain ⟨v2, q3, q17⟩ := bs q17
    rcases sp q17 with ⟨g4, q17⟩ | ⟨g4, q17⟩
    · have g5 := notT g4
      obtain rfl := Option.some.inj q17
      refine st ?_
      simp [g4]
      have r25 := ident_IsUpper_ok fuel s1.Unit v2 q3
      try simp [g4] at r25
      refine callPure r25 (by simp) rfl ?_
      simp [g4]
    · have g6 := notF g4
      rcases sp q17 with ⟨g7, q17⟩ | ⟨g7, q17⟩
      · have c8 := ltT g7
        obtain rfl := Option.some.inj q17
        refine st ?_
        simp [g4, g7]
        have r26 := ident_IsUpper_ok fuel s1.Unit v2 q3
        try simp [g4, g7] at r26
        refine callPure r26 (by simp) rfl ?_
        simp [g4, g7]
      · have c9 := ltF g7
        rcases sp q17 with ⟨g10, q17⟩ | ⟨g10, q17⟩
        · have c11 := ltT g10
          obtain rfl := Option.some.inj q17
          refine st ?_
          simp [g4, g7, g10]
          have r27 := ident_IsUpper_ok fuel s1.Unit v2 q3
          try simp [g4, g7, g10] at r27
          refine callPure r27 (by simp) rfl ?_
          simp [g4, g7, g10]
        · have c12 := ltF g10
          rcases sp q17 with ⟨g13, q17⟩ | ⟨g13, q17⟩
          · have c14 := ltT g13
            obtain rfl := Option.some.inj q17
            refine st ?_
            simp [g4, g7, g10, g13]
            have r28 := ident_IsUpper_ok fuel s1.Unit v2 q3
            try simp [g4, g7, g10, g13] at r28
            refine callPure r28 (by simp) rfl ?_
            simp [g4, g7, g10, g13]
          · have c15 := ltF g13
            obtain rfl := Option.some.inj q17
            refine st ?_
            simp [g4, g7, g10, g13]
            have r29 := ident_IsUpper_ok fuel s1.Unit v2 q3
            try simp [g4, g7, g10, g13] at r29
            refine callPure r29 (by simp) rfl ?_
            simp [g4, g7, g10, g13]
  rcases sp h with ⟨g18, h⟩ | ⟨g18, h⟩
  · refine condT rfl g18 ?_
    refine cut 39 0 [(2, .bool false)] [[.str s1.Unit, .int .i64 s1.Reason.Op, .str s1.Reason.Unit, .bool s1.Compiled, .int .i64 s1.Code, .bool s1.Same], [.int .i64 s1.Reason.Op, .str s1.Reason.Unit]] ?_ ?_
    · refine st ?_
      simp
    refine awp_ret ?_
    refine ret_seq ?_
    obtain rfl := Option.some.inj h
    simp
  · refine condF rfl g18 ?_
    refine awp_skip ?_
    refine seq_eq ?_
    refine awp_seq ?_
    refine cut 39 0 [(3, .mptr 1 0), (32, .bool (eqI s1.Reason.Op 4))] [[.str s1.Unit, .int .i64 s1.Reason.Op, .str s1.Reason.Unit, .bool s1.Compiled, .int .i64 s1.Code, .bool s1.Same], [.int .i64 s1.Reason.Op, .str s1.Reason.Unit]] ?_ ?_
    · refine st ?_
      simp
    rcases sp h with ⟨g19, h⟩ | ⟨g19, h⟩
    · have c20 := eqT g19
      refine condT rfl g19 ?_
      obtain ⟨v21, q22, h⟩ := bs h
      refine cut 39 0 [(2, .bool v21)] [[.str s1.Unit, .int .i64 s1.Reason.Op, .str s1.Reason.Unit, .bool s1.Compiled, .int .i64 s1.Code, .bool s1.Same], [.int .i64 s1.Reason.Op, .str s1.Reason.Unit]] ?_ ?_
      · refine st ?_
        simp
        have r23 := ident_IsUpper_ok fuel s1.Reason.Unit v21 q22
        try simp [] at r23
        refine callPure r23 (by simp) rfl ?_
        simp
      refine awp_ret ?_
      refine ret_seq ?_
      obtain rfl := Option.some.inj h
      simp
    · have c24 := eqF g19
      refine condF rfl g19 ?_
      refine awp_skip ?_
      refine seq_eq ?_
      refine cut 39 0 [(2, .bool (eqS s1.Reason.Unit ([] : List UInt8)))] [[.str s1.Unit, .int .i64 s1.Reason.Op, .str s1.Reason.Unit, .bool s1.Compiled, .int .i64 s1.Code, .bool s1.Same], [.int .i64 s1.Reason.Op, .str s1.Reason.Unit]] ?_ ?_
      · refine st ?_
        simp
      refine awp_ret ?_
      obtain rfl := Option.some.inj h
      simp
end Go.Proofs.YtlhikhaailhoaaaDoor
set_option linter.unusedVariables false
set_option linter.unusedSimpArgs false
set_option maxRecDepth 100000
set_option maxHeartbeats 1000000
namespace Go.Proofs.YtlhikhaailhoaaaDoor
open Go Go.Abs
theorem explain_reason_ok (r1 : Api.Reason) (r : (List UInt8)) (h : M.explain_reason r1 = some r) : Pure Tryd.prog 26 [.agg [.int .i64 r1.Op, .str r1.Unit]] (.str r) := by
  rw [M.explain_reason] at h
  refine pure_of_body Tryd.func26 (by rfl) (by rfl) (by simp) (by simp) (by simp) ?_
  refine cut 17 0 [(1, .mptr 0 0)] [[.int .i64 r1.Op, .str r1.Unit]] ?_ ?_
  · refine st ?_
    simp
  refine awp_seq ?_
  refine cut 17 0 [(1, .mptr 0 0), (4, .int .i64 r1.Op)] [[.int .i64 r1.Op, .str r1.Unit]] ?_ ?_
  · refine st ?_
    simp
  refine awp_block ?_
  refine cut 17 0 [(1, .mptr 0 0), (4, .int .i64 r1.Op), (5, .bool (eqI r1.Op 1))] [[.int .i64 r1.Op, .str r1.Unit]] ?_ ?_
  · refine st ?_
    simp
  rcases sp h with ⟨g2, h⟩ | ⟨g2, h⟩
  · have c3 := eqT g2
    refine condT rfl g2 ?_
    refine cut 17 0 [(2, .str [110, 101, 118, 101, 114, 32, 98, 117, 105, 108, 116])] [[.int .i64 r1.Op, .str r1.Unit]] ?_ ?_
    · refine st ?_
      simp
    refine awp_ret ?_
    refine ret_blk ?_
    refine ret_seq ?_
    obtain rfl := Option.some.inj h
    simp
  · have c4 := eqF g2
    refine condF rfl g2 ?_
    refine cut 17 0 [(1, .mptr 0 0), (4, .int .i64 r1.Op), (7, .bool (eqI r1.Op 2))] [[.int .i64 r1.Op, .str r1.Unit]] ?_ ?_
    · refine st ?_
      simp
    rcases sp h with ⟨g5, h⟩ | ⟨g5, h⟩
    · have c6 := eqT g5
      refine condT rfl g5 ?_
      refine cut 17 0 [(2, .str [110, 101, 119, 32, 115, 111, 117, 114, 99, 101])] [[.int .i64 r1.Op, .str r1.Unit]] ?_ ?_
      · refine st ?_
        simp
      refine awp_ret ?_
      refine ret_blk ?_
      refine ret_seq ?_
      obtain rfl := Option.some.inj h
      simp
    · have c7 := eqF g5
      refine condF rfl g5 ?_
      refine cut 17 0 [(1, .mptr 0 0), (4, .int .i64 r1.Op), (9, .bool (eqI r1.Op 3))] [[.int .i64 r1.Op, .str r1.Unit]] ?_ ?_
      · refine st ?_
        simp
      rcases sp h with ⟨g8, h⟩ | ⟨g8, h⟩
      · have c9 := eqT g8
        refine condT rfl g8 ?_
        refine cut 17 0 [(2, .str [111, 116, 104, 101, 114, 32, 105, 109, 112, 111, 114, 116, 115])] [[.int .i64 r1.Op, .str r1.Unit]] ?_ ?_
        · refine st ?_
          simp
        refine awp_ret ?_
        refine ret_blk ?_
        refine ret_seq ?_
        obtain rfl := Option.some.inj h
        simp
      · have c10 := eqF g8
        refine condF rfl g8 ?_
        refine cut 17 0 [(1, .mptr 0 0), (11, .bool (eqI r1.Op 4))] [[.int .i64 r1.Op, .str r1.Unit]] ?_ ?_
        · refine st ?_
          simp
        rcases sp h with ⟨g11, h⟩ | ⟨g11, h⟩
        · have c12 := eqT g11
          refine condT rfl g11 ?_
          obtain ⟨s13, q14, h⟩ := bs h
          obtain ⟨q15, q16⟩ := cat_ok q14
          try simp at q15
          try simp at q16
          obtain ⟨s17, q18, h⟩ := bs h
          obtain ⟨q19, q20⟩ := cat_ok q18
          try simp at q19
          try simp at q20
          refine cut 17 0 [(2, .str s17)] [[.int .i64 r1.Op, .str r1.Unit]] ?_ ?_
          · refine st ?_
            simp [q15, q16, q19, q20]
          refine awp_ret ?_
          refine ret_blk ?_
          refine ret_seq ?_
          obtain rfl := Option.some.inj h
          simp
        · have c21 := eqF g11
          refine condF rfl g11 ?_
          refine awp_skip ?_
          refine blk_n ?_
          refine seq_eq ?_
          refine cut 17 0 [(2, .str [110, 111, 116, 104, 105, 110, 103, 32, 104, 97, 115, 32, 99, 104, 97, 110, 103, 101, 100])] [[.int .i64 r1.Op, .str r1.Unit]] ?_ ?_
          · refine st ?_
            simp
          refine awp_ret ?_
          obtain rfl := Option.some.inj h
          simp
end Go.Proofs.YtlhikhaailhoaaaDoor
set_option linter.unusedVariables false
set_option linter.unusedSimpArgs false
set_option maxRecDepth 100000
set_option maxHeartbeats 1000000
namespace Go.Proofs.YtlhikhaailhoaaaDoor
open Go Go.Abs
theorem explain_either_ok (is1 : Bool) (yes2 : (List UInt8)) (no3 : (List UInt8)) (r : (List UInt8)) (h : M.explain_either is1 yes2 no3 = some r) : Pure Tryd.prog 27 [.bool is1, .str yes2, .str no3] (.str r) := by
  rw [M.explain_either] at h
  refine pure_of_body Tryd.func27 (by rfl) (by rfl) (by simp) (by simp) (by simp) ?_
  refine cut 10 0 [(0, .bool is1), (1, .str yes2), (2, .str no3)] [] ?_ ?_
  · refine st ?_
    simp
  refine awp_seq ?_
  refine cut 10 0 [(1, .str yes2), (2, .str no3), (7, .bool is1)] [] ?_ ?_
  · refine st ?_
    simp
  rcases sp h with ⟨g4, h⟩ | ⟨g4, h⟩
  · refine condT rfl g4 ?_
    refine cut 10 0 [(6, .str yes2)] [] ?_ ?_
    · refine st ?_
      simp
    refine awp_ret ?_
    refine ret_seq ?_
    obtain rfl := Option.some.inj h
    simp
  · refine condF rfl g4 ?_
    refine awp_skip ?_
    refine seq_eq ?_
    refine cut 10 0 [(6, .str no3)] [] ?_ ?_
    · refine st ?_
      simp
    refine awp_ret ?_
    obtain rfl := Option.some.inj h
    simp
end Go.Proofs.YtlhikhaailhoaaaDoor
set_option linter.unusedVariables false
set_option linter.unusedSimpArgs false
set_option maxRecDepth 100000
set_option maxHeartbeats 1000000
namespace Go.Proofs.YtlhikhaailhoaaaDoor
open Go Go.Abs
theorem explain_Error_ok (e1 : Int) (r : (List UInt8)) (h : M.explain_Error e1 = some r) : Pure Tryd.prog 9 [.int .i64 e1] (.str r) := by
  rw [M.explain_Error] at h
  refine pure_of_body Tryd.func9 (by rfl) (by rfl) (by simp) (by simp) (by simp) ?_
  refine cut 66 0 [(0, .int .i64 e1)] [] ?_ ?_
  · refine st ?_
    simp
  refine awp_seq ?_
  refine cut 66 0 [(3, .int .i64 e1)] [] ?_ ?_
  · refine st ?_
    simp
  refine awp_block ?_
  refine cut 66 0 [(3, .int .i64 e1), (4, .bool (eqI e1 0))] [] ?_ ?_
  · refine st ?_
    simp
  rcases sp h with ⟨g2, h⟩ | ⟨g2, h⟩
  · have c3 := eqT g2
    refine condT rfl g2 ?_
    refine cut 66 0 [(2, .str [110, 111, 32, 101, 114, 114, 111, 114])] [] ?_ ?_
    · refine st ?_
      simp
    refine awp_ret ?_
    refine ret_blk ?_
    refine ret_seq ?_
    obtain rfl := Option.some.inj h
    simp
  · have c4 := eqF g2
    refine condF rfl g2 ?_
    refine cut 66 0 [(3, .int .i64 e1), (6, .bool (eqI e1 1))] [] ?_ ?_
    · refine st ?_
      simp
    rcases sp h with ⟨g5, h⟩ | ⟨g5, h⟩
    · have c6 := eqT g5
      refine condT rfl g5 ?_
      refine cut 66 0 [(2, .str [97, 110, 32, 97, 114, 103, 117, 109, 101, 110, 116, 32, 105, 115, 32, 110, 111, 116, 32, 118, 97, 108, 105, 100])] [] ?_ ?_
      · refine st ?_
        simp
      refine awp_ret ?_
      refine ret_blk ?_
      refine ret_seq ?_
      obtain rfl := Option.some.inj h
      simp
    · have c7 := eqF g5
      refine condF rfl g5 ?_
      refine cut 66 0 [(3, .int .i64 e1), (8, .bool (eqI e1 2))] [] ?_ ?_
      · refine st ?_
        simp
      rcases sp h with ⟨g8, h⟩ | ⟨g8, h⟩
      · have c9 := eqT g8
        refine condT rfl g8 ?_
        refine cut 66 0 [(2, .str [97, 32, 110, 117, 109, 98, 101, 114, 32, 105, 115, 32, 111, 117, 116, 32, 111, 102, 32, 114, 97, 110, 103, 101])] [] ?_ ?_
        · refine st ?_
          simp
        refine awp_ret ?_
        refine ret_blk ?_
        refine ret_seq ?_
        obtain rfl := Option.some.inj h
        simp
      · have c10 := eqF g8
        refine condF rfl g8 ?_
        refine cut 66 0 [(3, .int .i64 e1), (10, .bool (eqI e1 3))] [] ?_ ?_
        · refine st ?_
          simp
        rcases sp h with ⟨g11, h⟩ | ⟨g11, h⟩
        · have c12 := eqT g11
          refine condT rfl g11 ?_
          refine cut 66 0 [(2, .str [97, 32, 116, 101, 120, 116, 32, 105, 115, 32, 109, 97, 108, 102, 111, 114, 109, 101, 100])] [] ?_ ?_
          · refine st ?_
            simp
          refine awp_ret ?_
          refine ret_blk ?_
          refine ret_seq ?_
          obtain rfl := Option.some.inj h
          simp
        · have c13 := eqF g11
          refine condF rfl g11 ?_
          refine cut 66 0 [(3, .int .i64 e1), (12, .bool (eqI e1 4))] [] ?_ ?_
          · refine st ?_
            simp
          rcases sp h with ⟨g14, h⟩ | ⟨g14, h⟩
          · have c15 := eqT g14
            refine condT rfl g14 ?_
            refine cut 66 0 [(2, .str [97, 32, 116, 101, 120, 116, 32, 101, 110, 100, 115, 32, 116, 111, 111, 32, 101, 97, 114, 108, 121])] [] ?_ ?_
            · refine st ?_
              simp
            refine awp_ret ?_
            refine ret_blk ?_
            refine ret_seq ?_
            obtain rfl := Option.some.inj h
            simp
          · have c16 := eqF g14
            refine condF rfl g14 ?_
            refine cut 66 0 [(3, .int .i64 e1), (14, .bool (eqI e1 5))] [] ?_ ?_
            · refine st ?_
              simp
            rcases sp h with ⟨g17, h⟩ | ⟨g17, h⟩
            · have c18 := eqT g17
              refine condT rfl g17 ?_
              refine cut 66 0 [(2, .str [116, 111, 111, 32, 109, 97, 110, 121, 44, 32, 111, 114, 32, 116, 111, 111, 32, 108, 111, 110, 103])] [] ?_ ?_
              · refine st ?_
                simp
              refine awp_ret ?_
              refine ret_blk ?_
              refine ret_seq ?_
              obtain rfl := Option.some.inj h
              simp
            · have c19 := eqF g17
              refine condF rfl g17 ?_
              refine cut 66 0 [(3, .int .i64 e1), (16, .bool (eqI e1 6))] [] ?_ ?_
              · refine st ?_
                simp
              rcases sp h with ⟨g20, h⟩ | ⟨g20, h⟩
              · have c21 := eqT g20
                refine condT rfl g20 ?_
                refine cut 66 0 [(2, .str [97, 32, 114, 101, 115, 117, 108, 116, 32, 101, 120, 99, 101, 101, 100, 115, 32, 105, 116, 115, 32, 108, 105, 109, 105, 116])] [] ?_ ?_
                · refine st ?_
                  simp
                refine awp_ret ?_
                refine ret_blk ?_
                refine ret_seq ?_
                obtain rfl := Option.some.inj h
                simp
              · have c22 := eqF g20
                refine condF rfl g20 ?_
                refine cut 66 0 [(3, .int .i64 e1), (18, .bool (eqI e1 7))] [] ?_ ?_
                · refine st ?_
                  simp
                rcases sp h with ⟨g23, h⟩ | ⟨g23, h⟩
                · have c24 := eqT g23
                  refine condT rfl g23 ?_
                  refine cut 66 0 [(2, .str [110, 111, 116, 32, 112, 111, 115, 115, 105, 98, 108, 101, 32, 105, 110, 32, 116, 104, 105, 115, 32, 115, 116, 97, 116, 101])] [] ?_ ?_
                  · refine st ?_
                    simp
                  refine awp_ret ?_
                  refine ret_blk ?_
                  refine ret_seq ?_
                  obtain rfl := Option.some.inj h
                  simp
                · have c25 := eqF g23
                  refine condF rfl g23 ?_
                  refine cut 66 0 [(3, .int .i64 e1), (20, .bool (eqI e1 8))] [] ?_ ?_
                  · refine st ?_
                    simp
                  rcases sp h with ⟨g26, h⟩ | ⟨g26, h⟩
                  · have c27 := eqT g26
                    refine condT rfl g26 ?_
                    refine cut 66 0 [(2, .str [116, 104, 101, 114, 101, 32, 105, 115, 32, 110, 111, 110, 101])] [] ?_ ?_
                    · refine st ?_
                      simp
                    refine awp_ret ?_
                    refine ret_blk ?_
                    refine ret_seq ?_
                    obtain rfl := Option.some.inj h
                    simp
                  · have c28 := eqF g26
                    refine condF rfl g26 ?_
                    refine cut 66 0 [(3, .int .i64 e1), (22, .bool (eqI e1 9))] [] ?_ ?_
                    · refine st ?_
                      simp
                    rcases sp h with ⟨g29, h⟩ | ⟨g29, h⟩
                    · have c30 := eqT g29
                      refine condT rfl g29 ?_
                      refine cut 66 0 [(2, .str [116, 104, 101, 32, 115, 97, 109, 101, 32, 110, 97, 109, 101, 32, 116, 119, 105, 99, 101])] [] ?_ ?_
                      · refine st ?_
                        simp
                      refine awp_ret ?_
                      refine ret_blk ?_
                      refine ret_seq ?_
                      obtain rfl := Option.some.inj h
                      simp
                    · have c31 := eqF g29
                      refine condF rfl g29 ?_
                      refine cut 66 0 [(3, .int .i64 e1), (24, .bool (eqI e1 10))] [] ?_ ?_
                      · refine st ?_
                        simp
                      rcases sp h with ⟨g32, h⟩ | ⟨g32, h⟩
                      · have c33 := eqT g32
                        refine condT rfl g32 ?_
                        refine cut 66 0 [(2, .str [97, 110, 32, 117, 110, 107, 110, 111, 119, 110, 32, 110, 97, 109, 101])] [] ?_ ?_
                        · refine st ?_
                          simp
                        refine awp_ret ?_
                        refine ret_blk ?_
                        refine ret_seq ?_
                        obtain rfl := Option.some.inj h
                        simp
                      · have c34 := eqF g32
                        refine condF rfl g32 ?_
                        refine cut 66 0 [(3, .int .i64 e1), (26, .bool (eqI e1 11))] [] ?_ ?_
                        · refine st ?_
                          simp
                        rcases sp h with ⟨g35, h⟩ | ⟨g35, h⟩
                        · have c36 := eqT g35
                          refine condT rfl g35 ?_
                          refine cut 66 0 [(2, .str [97, 32, 99, 111, 110, 115, 116, 114, 117, 99, 116, 111, 114, 32, 111, 102, 32, 97, 32, 119, 114, 111, 110, 103, 32, 107, 105, 110, 100])] [] ?_ ?_
                          · refine st ?_
                            simp
                          refine awp_ret ?_
                          refine ret_blk ?_
                          refine ret_seq ?_
                          obtain rfl := Option.some.inj h
                          simp
                        · have c37 := eqF g35
                          refine condF rfl g35 ?_
                          refine cut 66 0 [(3, .int .i64 e1), (28, .bool (eqI e1 12))] [] ?_ ?_
                          · refine st ?_
                            simp
                          rcases sp h with ⟨g38, h⟩ | ⟨g38, h⟩
                          · have c39 := eqT g38
                            refine condT rfl g38 ?_
                            refine cut 66 0 [(2, .str [97, 32, 119, 114, 111, 110, 103, 32, 116, 121, 112, 101])] [] ?_ ?_
                            · refine st ?_
                              simp
                            refine awp_ret ?_
                            refine ret_blk ?_
                            refine ret_seq ?_
                            obtain rfl := Option.some.inj h
                            simp
                          · have c40 := eqF g38
                            refine condF rfl g38 ?_
                            refine cut 66 0 [(3, .int .i64 e1), (30, .bool (eqI e1 13))] [] ?_ ?_
                            · refine st ?_
                              simp
                            rcases sp h with ⟨g41, h⟩ | ⟨g41, h⟩
                            · have c42 := eqT g41
                              refine condT rfl g41 ?_
                              refine cut 66 0 [(2, .str [97, 32, 116, 121, 112, 101, 32, 116, 104, 97, 116, 32, 119, 111, 117, 108, 100, 32, 99, 111, 110, 116, 97, 105, 110, 32, 105, 116, 115, 101, 108, 102])] [] ?_ ?_
                              · refine st ?_
                                simp
                              refine awp_ret ?_
                              refine ret_blk ?_
                              refine ret_seq ?_
                              obtain rfl := Option.some.inj h
                              simp
                            · have c43 := eqF g41
                              refine condF rfl g41 ?_
                              refine cut 66 0 [(3, .int .i64 e1), (32, .bool (eqI e1 14))] [] ?_ ?_
                              · refine st ?_
                                simp
                              rcases sp h with ⟨g44, h⟩ | ⟨g44, h⟩
                              · have c45 := eqT g44
                                refine condT rfl g44 ?_
                                refine cut 66 0 [(2, .str [97, 32, 109, 97, 116, 99, 104, 32, 116, 104, 97, 116, 32, 105, 115, 32, 110, 111, 116, 32, 101, 120, 104, 97, 117, 115, 116, 105, 118, 101])] [] ?_ ?_
                                · refine st ?_
                                  simp
                                refine awp_ret ?_
                                refine ret_blk ?_
                                refine ret_seq ?_
                                obtain rfl := Option.some.inj h
                                simp
                              · have c46 := eqF g44
                                refine condF rfl g44 ?_
                                refine cut 66 0 [(3, .int .i64 e1), (34, .bool (eqI e1 15))] [] ?_ ?_
                                · refine st ?_
                                  simp
                                rcases sp h with ⟨g47, h⟩ | ⟨g47, h⟩
                                · have c48 := eqT g47
                                  refine condT rfl g47 ?_
                                  refine cut 66 0 [(2, .str [97, 32, 114, 117, 108, 101, 32, 116, 104, 97, 116, 32, 105, 115, 32, 110, 101, 118, 101, 114, 32, 99, 104, 111, 115, 101, 110])] [] ?_ ?_
                                  · refine st ?_
                                    simp
                                  refine awp_ret ?_
                                  refine ret_blk ?_
                                  refine ret_seq ?_
                                  obtain rfl := Option.some.inj h
                                  simp
                                · have c49 := eqF g47
                                  refine condF rfl g47 ?_
                                  refine cut 66 0 [(3, .int .i64 e1), (36, .bool (eqI e1 16))] [] ?_ ?_
                                  · refine st ?_
                                    simp
                                  rcases sp h with ⟨g50, h⟩ | ⟨g50, h⟩
                                  · have c51 := eqT g50
                                    refine condT rfl g50 ?_
                                    refine cut 66 0 [(2, .str [97, 110, 32, 97, 98, 115, 116, 114, 97, 99, 116, 32, 116, 121, 112, 101, 32, 119, 111, 117, 108, 100, 32, 108, 101, 97, 118, 101, 32, 105, 116, 115, 32, 115, 99, 111, 112, 101])] [] ?_ ?_
                                    · refine st ?_
                                      simp
                                    refine awp_ret ?_
                                    refine ret_blk ?_
                                    refine ret_seq ?_
                                    obtain rfl := Option.some.inj h
                                    simp
                                  · have c52 := eqF g50
                                    refine condF rfl g50 ?_
                                    refine cut 66 0 [(3, .int .i64 e1), (38, .bool (eqI e1 17))] [] ?_ ?_
                                    · refine st ?_
                                      simp
                                    rcases sp h with ⟨g53, h⟩ | ⟨g53, h⟩
                                    · have c54 := eqT g53
                                      refine condT rfl g53 ?_
                                      refine cut 66 0 [(2, .str [97, 32, 99, 111, 109, 112, 111, 110, 101, 110, 116, 32, 105, 115, 32, 109, 105, 115, 115, 105, 110, 103])] [] ?_ ?_
                                      · refine st ?_
                                        simp
                                      refine awp_ret ?_
                                      refine ret_blk ?_
                                      refine ret_seq ?_
                                      obtain rfl := Option.some.inj h
                                      simp
                                    · have c55 := eqF g53
                                      refine condF rfl g53 ?_
                                      refine cut 66 0 [(3, .int .i64 e1), (40, .bool (eqI e1 18))] [] ?_ ?_
                                      · refine st ?_
                                        simp
                                      rcases sp h with ⟨g56, h⟩ | ⟨g56, h⟩
                                      · have c57 := eqT g56
                                        refine condT rfl g56 ?_
                                        refine cut 66 0 [(2, .str [97, 110, 32, 97, 98, 115, 116, 114, 97, 99, 116, 32, 116, 121, 112, 101, 32, 104, 97, 115, 32, 110, 111, 32, 114, 111, 111, 116])] [] ?_ ?_
                                        · refine st ?_
                                          simp
                                        refine awp_ret ?_
                                        refine ret_blk ?_
                                        refine ret_seq ?_
                                        obtain rfl := Option.some.inj h
                                        simp
                                      · have c58 := eqF g56
                                        refine condF rfl g56 ?_
                                        refine cut 66 0 [(3, .int .i64 e1), (42, .bool (eqI e1 19))] [] ?_ ?_
                                        · refine st ?_
                                          simp
                                        rcases sp h with ⟨g59, h⟩ | ⟨g59, h⟩
                                        · have c60 := eqT g59
                                          refine condT rfl g59 ?_
                                          refine cut 66 0 [(2, .str [97, 32, 103, 101, 110, 101, 114, 97, 116, 105, 118, 101, 32, 109, 111, 100, 117, 108, 101, 32, 105, 110, 32, 97, 110, 32, 97, 112, 112, 108, 105, 99, 97, 116, 105, 118, 101, 32, 102, 117, 110, 99, 116, 111, 114])] [] ?_ ?_
                                          · refine st ?_
                                            simp
                                          refine awp_ret ?_
                                          refine ret_blk ?_
                                          refine ret_seq ?_
                                          obtain rfl := Option.some.inj h
                                          simp
                                        · have c61 := eqF g59
                                          refine condF rfl g59 ?_
                                          refine cut 66 0 [(3, .int .i64 e1), (44, .bool (eqI e1 20))] [] ?_ ?_
                                          · refine st ?_
                                            simp
                                          rcases sp h with ⟨g62, h⟩ | ⟨g62, h⟩
                                          · have c63 := eqT g62
                                            refine condT rfl g62 ?_
                                            refine cut 66 0 [(2, .str [97, 32, 116, 121, 112, 101, 32, 116, 104, 97, 116, 32, 99, 97, 110, 110, 111, 116, 32, 98, 101, 32, 114, 101, 102, 105, 110, 101, 100])] [] ?_ ?_
                                            · refine st ?_
                                              simp
                                            refine awp_ret ?_
                                            refine ret_blk ?_
                                            refine ret_seq ?_
                                            obtain rfl := Option.some.inj h
                                            simp
                                          · have c64 := eqF g62
                                            refine condF rfl g62 ?_
                                            refine cut 66 0 [(3, .int .i64 e1), (46, .bool (eqI e1 21))] [] ?_ ?_
                                            · refine st ?_
                                              simp
                                            rcases sp h with ⟨g65, h⟩ | ⟨g65, h⟩
                                            · have c66 := eqT g65
                                              refine condT rfl g65 ?_
                                              refine cut 66 0 [(2, .str [117, 110, 105, 116, 115, 32, 116, 104, 97, 116, 32, 105, 109, 112, 111, 114, 116, 32, 101, 97, 99, 104, 32, 111, 116, 104, 101, 114])] [] ?_ ?_
                                              · refine st ?_
                                                simp
                                              refine awp_ret ?_
                                              refine ret_blk ?_
                                              refine ret_seq ?_
                                              obtain rfl := Option.some.inj h
                                              simp
                                            · have c67 := eqF g65
                                              refine condF rfl g65 ?_
                                              refine cut 66 0 [(3, .int .i64 e1), (48, .bool (eqI e1 22))] [] ?_ ?_
                                              · refine st ?_
                                                simp
                                              rcases sp h with ⟨g68, h⟩ | ⟨g68, h⟩
                                              · have c69 := eqT g68
                                                refine condT rfl g68 ?_
                                                refine cut 66 0 [(2, .str [109, 111, 114, 101, 32, 115, 116, 101, 112, 115, 32, 116, 104, 97, 110, 32, 112, 101, 114, 109, 105, 116, 116, 101, 100])] [] ?_ ?_
                                                · refine st ?_
                                                  simp
                                                refine awp_ret ?_
                                                refine ret_blk ?_
                                                refine ret_seq ?_
                                                obtain rfl := Option.some.inj h
                                                simp
                                              · have c70 := eqF g68
                                                refine condF rfl g68 ?_
                                                refine cut 66 0 [(3, .int .i64 e1), (50, .bool (eqI e1 23))] [] ?_ ?_
                                                · refine st ?_
                                                  simp
                                                rcases sp h with ⟨g71, h⟩ | ⟨g71, h⟩
                                                · have c72 := eqT g71
                                                  refine condT rfl g71 ?_
                                                  refine cut 66 0 [(2, .str [97, 32, 116, 101, 114, 109, 32, 116, 104, 97, 116, 32, 103, 111, 101, 115, 32, 119, 114, 111, 110, 103])] [] ?_ ?_
                                                  · refine st ?_
                                                    simp
                                                  refine awp_ret ?_
                                                  refine ret_blk ?_
                                                  refine ret_seq ?_
                                                  obtain rfl := Option.some.inj h
                                                  simp
                                                · have c73 := eqF g71
                                                  refine condF rfl g71 ?_
                                                  refine cut 66 0 [(3, .int .i64 e1), (52, .bool (eqI e1 24))] [] ?_ ?_
                                                  · refine st ?_
                                                    simp
                                                  rcases sp h with ⟨g74, h⟩ | ⟨g74, h⟩
                                                  · have c75 := eqT g74
                                                    refine condT rfl g74 ?_
                                                    refine cut 66 0 [(2, .str [98, 121, 116, 101, 32, 99, 111, 100, 101, 32, 116, 104, 97, 116, 32, 105, 115, 32, 110, 111, 116, 32, 97, 99, 99, 101, 112, 116, 101, 100])] [] ?_ ?_
                                                    · refine st ?_
                                                      simp
                                                    refine awp_ret ?_
                                                    refine ret_blk ?_
                                                    refine ret_seq ?_
                                                    obtain rfl := Option.some.inj h
                                                    simp
                                                  · have c76 := eqF g74
                                                    refine condF rfl g74 ?_
                                                    refine cut 66 0 [(3, .int .i64 e1), (54, .bool (eqI e1 25))] [] ?_ ?_
                                                    · refine st ?_
                                                      simp
                                                    rcases sp h with ⟨g77, h⟩ | ⟨g77, h⟩
                                                    · have c78 := eqT g77
                                                      refine condT rfl g77 ?_
                                                      refine cut 66 0 [(2, .str [116, 104, 101, 32, 104, 101, 97, 112, 32, 105, 115, 32, 116, 111, 111, 32, 115, 109, 97, 108, 108])] [] ?_ ?_
                                                      · refine st ?_
                                                        simp
                                                      refine awp_ret ?_
                                                      refine ret_blk ?_
                                                      refine ret_seq ?_
                                                      obtain rfl := Option.some.inj h
                                                      simp
                                                    · have c79 := eqF g77
                                                      refine condF rfl g77 ?_
                                                      refine cut 66 0 [(3, .int .i64 e1), (56, .bool (eqI e1 26))] [] ?_ ?_
                                                      · refine st ?_
                                                        simp
                                                      rcases sp h with ⟨g80, h⟩ | ⟨g80, h⟩
                                                      · have c81 := eqT g80
                                                        refine condT rfl g80 ?_
                                                        refine cut 66 0 [(2, .str [97, 32, 115, 105, 103, 110, 97, 116, 117, 114, 101, 32, 116, 104, 97, 116, 32, 105, 115, 32, 110, 111, 116, 32, 102, 105, 114, 115, 116, 45, 111, 114, 100, 101, 114])] [] ?_ ?_
                                                        · refine st ?_
                                                          simp
                                                        refine awp_ret ?_
                                                        refine ret_blk ?_
                                                        refine ret_seq ?_
                                                        obtain rfl := Option.some.inj h
                                                        simp
                                                      · have c82 := eqF g80
                                                        refine condF rfl g80 ?_
                                                        refine cut 66 0 [(3, .int .i64 e1), (58, .bool (eqI e1 27))] [] ?_ ?_
                                                        · refine st ?_
                                                          simp
                                                        rcases sp h with ⟨g83, h⟩ | ⟨g83, h⟩
                                                        · have c84 := eqT g83
                                                          refine condT rfl g83 ?_
                                                          refine cut 66 0 [(2, .str [109, 111, 114, 101, 32, 115, 116, 97, 116, 101, 115, 32, 116, 104, 97, 110, 32, 112, 101, 114, 109, 105, 116, 116, 101, 100])] [] ?_ ?_
                                                          · refine st ?_
                                                            simp
                                                          refine awp_ret ?_
                                                          refine ret_blk ?_
                                                          refine ret_seq ?_
                                                          obtain rfl := Option.some.inj h
                                                          simp
                                                        · have c85 := eqF g83
                                                          refine condF rfl g83 ?_
                                                          refine cut 66 0 [(3, .int .i64 e1), (60, .bool (eqI e1 28))] [] ?_ ?_
                                                          · refine st ?_
                                                            simp
                                                          rcases sp h with ⟨g86, h⟩ | ⟨g86, h⟩
                                                          · have c87 := eqT g86
                                                            refine condT rfl g86 ?_
                                                            refine cut 66 0 [(2, .str [116, 119, 111, 32, 115, 116, 114, 117, 99, 116, 117, 114, 101, 115, 32, 100, 105, 102, 102, 101, 114])] [] ?_ ?_
                                                            · refine st ?_
                                                              simp
                                                            refine awp_ret ?_
                                                            refine ret_blk ?_
                                                            refine ret_seq ?_
                                                            obtain rfl := Option.some.inj h
                                                            simp
                                                          · have c88 := eqF g86
                                                            refine condF rfl g86 ?_
                                                            refine cut 66 0 [(3, .int .i64 e1), (62, .bool (eqI e1 29))] [] ?_ ?_
                                                            · refine st ?_
                                                              simp
                                                            rcases sp h with ⟨g89, h⟩ | ⟨g89, h⟩
                                                            · have c90 := eqT g89
                                                              refine condT rfl g89 ?_
                                                              refine cut 66 0 [(2, .str [97, 32, 99, 104, 101, 99, 107, 32, 115, 117, 109, 32, 105, 115, 32, 119, 114, 111, 110, 103])] [] ?_ ?_
                                                              · refine st ?_
                                                                simp
                                                              refine awp_ret ?_
                                                              refine ret_blk ?_
                                                              refine ret_seq ?_
                                                              obtain rfl := Option.some.inj h
                                                              simp
                                                            · have c91 := eqF g89
                                                              refine condF rfl g89 ?_
                                                              refine cut 66 0 [(64, .bool (eqI e1 30))] [] ?_ ?_
                                                              · refine st ?_
                                                                simp
                                                              rcases sp h with ⟨g92, h⟩ | ⟨g92, h⟩
                                                              · have c93 := eqT g92
                                                                refine condT rfl g92 ?_
                                                                refine cut 66 0 [(2, .str [97, 32, 99, 114, 97, 115, 104])] [] ?_ ?_
                                                                · refine st ?_
                                                                  simp
                                                                refine awp_ret ?_
                                                                refine ret_blk ?_
                                                                refine ret_seq ?_
                                                                obtain rfl := Option.some.inj h
                                                                simp
                                                              · have c94 := eqF g92
                                                                refine condF rfl g92 ?_
                                                                refine awp_skip ?_
                                                                refine blk_n ?_
                                                                refine seq_eq ?_
                                                                refine cut 66 0 [(2, .str [117, 110, 107, 110, 111, 119, 110, 32, 101, 114, 114, 111, 114])] [] ?_ ?_
                                                                · refine st ?_
                                                                  simp
                                                                refine awp_ret ?_
                                                                obtain rfl := Option.some.inj h
                                                                simp
end Go.Proofs.YtlhikhaailhoaaaDoor
set_option linter.unusedVariables false
set_option linter.unusedSimpArgs false
set_option maxRecDepth 100000
set_option maxHeartbeats 1000000
namespace Go.Proofs.YtlhikhaailhoaaaDoor
open Go Go.Abs
theorem explain_Step_ok (fuel : Nat) (s1 : Api.Step) (r : (List UInt8) × Int) (h : M.explain_Step fuel s1 = some r) : Pure Tryd.prog 12 [.agg [.str s1.Unit, .int .i64 s1.Reason.Op, .str s1.Reason.Unit, .bool s1.Compiled, .int .i64 s1.Code, .bool s1.Same]] (.tup [.str r.1, .int .i64 r.2]) := by
  rw [M.explain_Step] at h
  refine pure_of_body Tryd.func12 (by rfl) (by rfl) (by simp) (by simp) (by simp) ?_
  refine cut 27 0 [(1, .mptr 0 0)] [[.str s1.Unit, .int .i64 s1.Reason.Op, .str s1.Reason.Unit, .bool s1.Compiled, .int .i64 s1.Code, .bool s1.Same]] ?_ ?_
  · refine st ?_
    simp
  refine awp_seq ?_
  obtain ⟨v2, q3, h⟩ := bs h
  refine cut 27 0 [(1, .mptr 0 0), (7, .bool (!v2))] [[.str s1.Unit, .int .i64 s1.Reason.Op, .str s1.Reason.Unit, .bool s1.Compiled, .int .i64 s1.Code, .bool s1.Same]] ?_ ?_
  · refine st ?_
    simp
    have r30 := explain_valid_ok fuel s1 v2 q3
    try simp [] at r30
    refine callPure r30 (by simp) rfl ?_
    simp
  rcases sp h with ⟨g4, h⟩ | ⟨g4, h⟩
  · have g5 := notT g4
    refine condT rfl g4 ?_
    refine cut 27 0 [(2, .str ([] : List UInt8)), (3, .int .i64 1)] [[.str s1.Unit, .int .i64 s1.Reason.Op, .str s1.Reason.Unit, .bool s1.Compiled, .int .i64 s1.Code, .bool s1.Same]] ?_ ?_
    · refine st ?_
      simp
    refine awp_ret ?_
    refine ret_seq ?_
    obtain rfl := Option.some.inj h
    simp
  · have g6 := notF g4
    refine condF rfl g4 ?_
    refine awp_skip ?_
    refine seq_eq ?_
    obtain ⟨v7, q8, h⟩ := bs h
    obtain ⟨v9, q10, h⟩ := bs h
    obtain ⟨v11, q12, h⟩ := bs h
    obtain ⟨v13, q14, h⟩ := bs h
    refine cut 27 0 [(1, .mptr 0 0), (4, .osl ⟨1, 9⟩ ([v7, v9, v11, v13].map cS))] [[.str s1.Unit, .int .i64 s1.Reason.Op, .str s1.Reason.Unit, .bool s1.Compiled, .int .i64 s1.Code, .bool s1.Same]] ?_ ?_
    · refine awp_region_draw [] mixed (n := 27) rfl (by decide) ?_
      simp
      have r26 := explain_reason_ok s1.Reason v7 q8
      try simp [] at r26
      refine callD r26 (by simp) rfl ?_
      simp
      have r27 := explain_either_ok s1.Compiled [99, 111, 109, 112, 105, 108, 101, 100] [110, 111, 116, 32, 99, 111, 109, 112, 105, 108, 101, 100] v9 q10
      try simp [] at r27
      refine callD r27 (by simp) rfl ?_
      simp
      have r28 := explain_either_ok s1.Same [115, 97, 109, 101, 32, 105, 110, 116, 101, 114, 102, 97, 99, 101] [111, 116, 104, 101, 114, 32, 105, 110, 116, 101, 114, 102, 97, 99, 101] v11 q12
      try simp [] at r28
      refine callD r28 (by simp) rfl ?_
      simp
      have r29 := explain_Error_ok s1.Code v13 q14
      try simp [] at r29
      refine callD r29 (by simp) rfl ?_
      simp
    obtain ⟨s15, q16, h⟩ := bs h
    obtain ⟨q17, q18⟩ := cat_ok q16
    try simp at q17
    try simp at q18
    obtain ⟨v19, q20, h⟩ := bs h
    obtain ⟨s21, q22, h⟩ := bs h
    obtain ⟨q23, q24⟩ := cat_ok q22
    try simp at q23
    try simp at q24
    refine cut 27 0 [(2, .str s21), (3, .int .i64 0)] [[.str s1.Unit, .int .i64 s1.Reason.Op, .str s1.Reason.Unit, .bool s1.Compiled, .int .i64 s1.Code, .bool s1.Same]] ?_ ?_
    · refine awp_region_draw [] mixed (n := 27) rfl (by decide) ?_
      simp [q17, q18, q23, q24]
      have r25 := strings_Join_ok [v7, v9, v11, v13] [59, 32] v19 q20
      try simp [q17, q18, q23, q24] at r25
      refine callD r25 (by simp) rfl ?_
      simp [q17, q18, q23, q24]
    refine awp_ret ?_
    obtain rfl := Option.some.inj h
    simp
end Go.Proofs.YtlhikhaailhoaaaDoor
set_option linter.unusedVariables false
set_option linter.unusedSimpArgs false
set_option maxRecDepth 100000
set_option maxHeartbeats 1000000
namespace Go.Proofs.YtlhikhaailhoaaaDoor
open Go Go.Abs
theorem stringslite_HasPrefix_ok (s1 : (List UInt8)) (prefix2 : (List UInt8)) (r : Bool) (h : M.stringslite_HasPrefix s1 prefix2 = some r) : Pure Tryd.prog 62 [.str s1, .str prefix2] (.bool r) := by
  rw [M.stringslite_HasPrefix] at h
  refine pure_of_body Tryd.func62 (by rfl) (by rfl) (by simp) (by simp) (by simp) ?_
  refine cut 18 0 [(0, .str s1), (1, .str prefix2)] [] ?_ ?_
  · refine st ?_
    simp
  obtain ⟨b14, q15, h⟩ := bs h
  refine cut 18 0 [(4, .bool b14)] [] ?_ ?_
  · rcases sp q15 with ⟨g3, q15⟩ | ⟨g3, q15⟩
    · have c4 := leT g3
      refine factS 1 rfl fun f5 => ?_
      refine factS 0 rfl fun f6 => ?_
      obtain ⟨s7, q8, q15⟩ := bs q15
      obtain ⟨q9, q10⟩ := subC_ok q8
      try simp at q9
      try simp at q10
      obtain rfl := Option.some.inj q15
      refine st ?_
      simp [g3, q9, q10]
    · have c11 := leF g3
      refine factS 1 rfl fun f12 => ?_
      refine factS 0 rfl fun f13 => ?_
      obtain rfl := Option.some.inj q15
      refine st ?_
      simp [g3]
  refine awp_ret ?_
  obtain rfl := Option.some.inj h
  simp
end Go.Proofs.YtlhikhaailhoaaaDoor
set_option linter.unusedVariables false
set_option linter.unusedSimpArgs false
set_option maxRecDepth 100000
set_option maxHeartbeats 1000000
namespace Go.Proofs.YtlhikhaailhoaaaDoor
open Go Go.Abs
theorem stringslite_CutPrefix_ok (s1 : (List UInt8)) (prefix2 : (List UInt8)) (r : (List UInt8) × Bool) (h : M.stringslite_CutPrefix s1 prefix2 = some r) : Pure Tryd.prog 49 [.str s1, .str prefix2] (.tup [.str r.1, .bool r.2]) := by
  rw [M.stringslite_CutPrefix] at h
  refine pure_of_body Tryd.func49 (by rfl) (by rfl) (by simp) (by simp) (by simp) ?_
  refine cut 15 0 [(0, .str s1), (1, .str prefix2)] [] ?_ ?_
  · refine st ?_
    simp
  refine awp_seq ?_
  obtain ⟨v3, q4, h⟩ := bs h
  refine cut 15 0 [(0, .str s1), (1, .str prefix2), (9, .bool (!v3))] [] ?_ ?_
  · refine st ?_
    simp
    have r12 := stringslite_HasPrefix_ok s1 prefix2 v3 q4
    try simp [] at r12
    refine callPure r12 (by simp) rfl ?_
    simp
  rcases sp h with ⟨g5, h⟩ | ⟨g5, h⟩
  · have g6 := notT g5
    refine condT rfl g5 ?_
    refine cut 15 0 [(4, .str s1), (5, .bool false)] [] ?_ ?_
    · refine st ?_
      simp
    refine awp_ret ?_
    refine ret_seq ?_
    obtain rfl := Option.some.inj h
    simp
  · have g7 := notF g5
    refine condF rfl g5 ?_
    refine awp_skip ?_
    refine seq_eq ?_
    obtain ⟨s8, q9, h⟩ := bs h
    obtain ⟨q10, q11⟩ := subC_ok q9
    try simp at q10
    try simp at q11
    refine cut 15 0 [(4, .str s8), (5, .bool true)] [] ?_ ?_
    · refine st ?_
      simp [q10, q11]
    refine awp_ret ?_
    obtain rfl := Option.some.inj h
    simp
end Go.Proofs.YtlhikhaailhoaaaDoor
set_option linter.unusedVariables false
set_option linter.unusedSimpArgs false
set_option maxRecDepth 100000
set_option maxHeartbeats 1000000
namespace Go.Proofs.YtlhikhaailhoaaaDoor
open Go Go.Abs
theorem strings_CutPrefix_ok (s1 : (List UInt8)) (prefix2 : (List UInt8)) (r : (List UInt8) × Bool) (h : M.strings_CutPrefix s1 prefix2 = some r) : Pure Tryd.prog 39 [.str s1, .str prefix2] (.tup [.str r.1, .bool r.2]) := by
  rw [M.strings_CutPrefix] at h
  refine pure_of_body Tryd.func39 (by rfl) (by rfl) (by simp) (by simp) (by simp) ?_
  refine cut 11 0 [(0, .str s1), (1, .str prefix2)] [] ?_ ?_
  · refine st ?_
    simp
  obtain ⟨v3, q4, h⟩ := bs h
  refine cut 11 0 [(4, .str v3.1), (5, .bool v3.2)] [] ?_ ?_
  · refine st ?_
    simp
    have r5 := stringslite_CutPrefix_ok s1 prefix2 v3 q4
    try simp [] at r5
    refine callPure r5 (by simp) rfl ?_
    simp
  refine awp_ret ?_
  obtain rfl := Option.some.inj h
  simp
end Go.Proofs.YtlhikhaailhoaaaDoor
set_option linter.unusedVariables false
set_option linter.unusedSimpArgs false
set_option maxRecDepth 100000
set_option maxHeartbeats 1000000
namespace Go.Proofs.YtlhikhaailhoaaaDoor
open Go Go.Abs
theorem stringslite_HasSuffix_ok (s1 : (List UInt8)) (suffix2 : (List UInt8)) (r : Bool) (h : M.stringslite_HasSuffix s1 suffix2 = some r) : Pure Tryd.prog 63 [.str s1, .str suffix2] (.bool r) := by
  rw [M.stringslite_HasSuffix] at h
  refine pure_of_body Tryd.func63 (by rfl) (by rfl) (by simp) (by simp) (by simp) ?_
  refine cut 21 0 [(0, .str s1), (1, .str suffix2)] [] ?_ ?_
  · refine st ?_
    simp
  obtain ⟨b15, q16, h⟩ := bs h
  refine cut 21 0 [(4, .bool b15)] [] ?_ ?_
  · rcases sp q16 with ⟨g3, q16⟩ | ⟨g3, q16⟩
    · have c4 := leT g3
      refine factS 1 rfl fun f5 => ?_
      refine factS 0 rfl fun f6 => ?_
      have q7 : Rng .i64 ((s1.length : Int) - (suffix2.length : Int)) := by simp only [Rng, inR]; omega
      try simp at q7
      obtain ⟨s8, q9, q16⟩ := bs q16
      obtain ⟨q10, q11⟩ := subC_ok q9
      try simp at q10
      try simp at q11
      obtain rfl := Option.some.inj q16
      refine st ?_
      simp [g3, q7, q10, q11]
    · have c12 := leF g3
      refine factS 1 rfl fun f13 => ?_
      refine factS 0 rfl fun f14 => ?_
      obtain rfl := Option.some.inj q16
      refine st ?_
      simp [g3]
  refine awp_ret ?_
  obtain rfl := Option.some.inj h
  simp
end Go.Proofs.YtlhikhaailhoaaaDoor
set_option linter.unusedVariables false
set_option linter.unusedSimpArgs false
set_option maxRecDepth 100000
set_option maxHeartbeats 1000000
namespace Go.Proofs.YtlhikhaailhoaaaDoor
open Go Go.Abs
theorem stringslite_CutSuffix_ok (s1 : (List UInt8)) (suffix2 : (List UInt8)) (r : (List UInt8) × Bool) (h : M.stringslite_CutSuffix s1 suffix2 = some r) : Pure Tryd.prog 50 [.str s1, .str suffix2] (.tup [.str r.1, .bool r.2]) := by
  rw [M.stringslite_CutSuffix] at h
  refine pure_of_body Tryd.func50 (by rfl) (by rfl) (by simp) (by simp) (by simp) ?_
  refine cut 18 0 [(0, .str s1), (1, .str suffix2)] [] ?_ ?_
  · refine st ?_
    simp
  refine awp_seq ?_
  obtain ⟨v3, q4, h⟩ := bs h
  refine cut 18 0 [(0, .str s1), (1, .str suffix2), (9, .bool (!v3))] [] ?_ ?_
  · refine st ?_
    simp
    have r17 := stringslite_HasSuffix_ok s1 suffix2 v3 q4
    try simp [] at r17
    refine callPure r17 (by simp) rfl ?_
    simp
  rcases sp h with ⟨g5, h⟩ | ⟨g5, h⟩
  · have g6 := notT g5
    refine condT rfl g5 ?_
    refine cut 18 0 [(4, .str s1), (5, .bool false)] [] ?_ ?_
    · refine st ?_
      simp
    refine awp_ret ?_
    refine ret_seq ?_
    obtain rfl := Option.some.inj h
    simp
  · have g7 := notF g5
    refine condF rfl g5 ?_
    refine awp_skip ?_
    refine seq_eq ?_
    obtain ⟨n8, q9, h⟩ := bs h
    obtain ⟨q10, q11⟩ := chk_ok q9
    try simp at q10
    try simp at q11
    have c12 := q10; simp only [Rng, inR] at c12
    obtain ⟨s13, q14, h⟩ := bs h
    obtain ⟨q15, q16⟩ := subC_ok q14
    try simp at q15
    try simp at q16
    refine cut 18 0 [(4, .str s13), (5, .bool true)] [] ?_ ?_
    · refine st ?_
      simp [q10, q11, q15, q16]
    refine awp_ret ?_
    obtain rfl := Option.some.inj h
    simp
end Go.Proofs.YtlhikhaailhoaaaDoor
set_option linter.unusedVariables false
set_option linter.unusedSimpArgs false
set_option maxRecDepth 100000
set_option maxHeartbeats 1000000
namespace Go.Proofs.YtlhikhaailhoaaaDoor
open Go Go.Abs
theorem strings_CutSuffix_ok (s1 : (List UInt8)) (suffix2 : (List UInt8)) (r : (List UInt8) × Bool) (h : M.strings_CutSuffix s1 suffix2 = some r) : Pure Tryd.prog 40 [.str s1, .str suffix2] (.tup [.str r.1, .bool r.2]) := by
  rw [M.strings_CutSuffix] at h
  refine pure_of_body Tryd.func40 (by rfl) (by rfl) (by simp) (by simp) (by simp) ?_
  refine cut 11 0 [(0, .str s1), (1, .str suffix2)] [] ?_ ?_
  · refine st ?_
    simp
  obtain ⟨v3, q4, h⟩ := bs h
  refine cut 11 0 [(4, .str v3.1), (5, .bool v3.2)] [] ?_ ?_
  · refine st ?_
    simp
    have r5 := stringslite_CutSuffix_ok s1 suffix2 v3 q4
    try simp [] at r5
    refine callPure r5 (by simp) rfl ?_
    simp
  refine awp_ret ?_
  obtain rfl := Option.some.inj h
  simp
end Go.Proofs.YtlhikhaailhoaaaDoor
set_option linter.unusedVariables false
set_option linter.unusedSimpArgs false
set_option maxRecDepth 100000
set_option maxHeartbeats 1000000
namespace Go.Proofs.YtlhikhaailhoaaaDoor
open Go Go.Abs
theorem explain_parsed_ok (s1 : (List UInt8)) (r : Api.Reason) (h : M.explain_parsed s1 = some r) : Pure Tryd.prog 22 [.str s1] (.agg [.int .i64 r.Op, .str r.Unit]) := by
  rw [M.explain_parsed] at h
  refine pure_of_body Tryd.func22 (by rfl) (by rfl) (by simp) (by simp) (by simp) ?_
  refine cut 29 0 [(0, .str s1), (2, .mptr 0 0)] [[.int .i64 0, .str ([] : List UInt8)]] ?_ ?_
  · refine st ?_
    simp
  refine awp_seq ?_
  refine cut 29 0 [(0, .str s1), (2, .mptr 0 0), (5, .str s1)] [[.int .i64 0, .str ([] : List UInt8)]] ?_ ?_
  · refine st ?_
    simp
  refine awp_block ?_
  refine cut 29 0 [(0, .str s1), (2, .mptr 0 0), (5, .str s1), (6, .bool (eqS s1 [110, 101, 118, 101, 114, 32, 98, 117, 105, 108, 116]))] [[.int .i64 0, .str ([] : List UInt8)]] ?_ ?_
  · refine st ?_
    simp
  rcases sp h with ⟨g2, h⟩ | ⟨g2, h⟩
  · refine condT rfl g2 ?_
    refine cut 29 0 [(2, .mptr 0 0)] [[.int .i64 1, .str ([] : List UInt8)]] ?_ ?_
    · refine st ?_
      simp
    refine awp_ret ?_
    refine ret_blk ?_
    refine ret_seq ?_
    obtain rfl := Option.some.inj h
    simp
  · refine condF rfl g2 ?_
    refine cut 29 0 [(0, .str s1), (2, .mptr 0 0), (5, .str s1), (9, .bool (eqS s1 [110, 101, 119, 32, 115, 111, 117, 114, 99, 101]))] [[.int .i64 0, .str ([] : List UInt8)]] ?_ ?_
    · refine st ?_
      simp
    rcases sp h with ⟨g3, h⟩ | ⟨g3, h⟩
    · refine condT rfl g3 ?_
      refine cut 29 0 [(2, .mptr 0 0)] [[.int .i64 2, .str ([] : List UInt8)]] ?_ ?_
      · refine st ?_
        simp
      refine awp_ret ?_
      refine ret_blk ?_
      refine ret_seq ?_
      obtain rfl := Option.some.inj h
      simp
    · refine condF rfl g3 ?_
      refine cut 29 0 [(0, .str s1), (2, .mptr 0 0), (12, .bool (eqS s1 [111, 116, 104, 101, 114, 32, 105, 109, 112, 111, 114, 116, 115]))] [[.int .i64 0, .str ([] : List UInt8)]] ?_ ?_
      · refine st ?_
        simp
      rcases sp h with ⟨g4, h⟩ | ⟨g4, h⟩
      · refine condT rfl g4 ?_
        refine cut 29 0 [(2, .mptr 0 0)] [[.int .i64 3, .str ([] : List UInt8)]] ?_ ?_
        · refine st ?_
          simp
        refine awp_ret ?_
        refine ret_blk ?_
        refine ret_seq ?_
        obtain rfl := Option.some.inj h
        simp
      · refine condF rfl g4 ?_
        refine awp_skip ?_
        refine blk_n ?_
        refine seq_eq ?_
        refine awp_seq ?_
        obtain ⟨v5, q6, h⟩ := bs h
        refine cut 29 0 [(2, .mptr 0 0), (3, .str v5.1), (4, .bool v5.2)] [[.int .i64 0, .str ([] : List UInt8)]] ?_ ?_
        · refine st ?_
          simp
          have r11 := strings_CutPrefix_ok s1 [116, 104, 101, 32, 105, 110, 116, 101, 114, 102, 97, 99, 101, 32, 111, 102, 32] v5 q6
          try simp [] at r11
          refine callPure r11 (by simp) rfl ?_
          simp
        refine cut 29 0 [(2, .mptr 0 0), (3, .str v5.1), (20, .bool v5.2)] [[.int .i64 0, .str ([] : List UInt8)]] ?_ ?_
        · refine st ?_
          simp
        rcases sp h with ⟨g7, h⟩ | ⟨g7, h⟩
        · refine condT rfl g7 ?_
          obtain ⟨v8, q9, h⟩ := bs h
          refine cut 29 0 [(2, .mptr 0 0), (3, .str v8.1)] [[.int .i64 0, .str ([] : List UInt8)]] ?_ ?_
          · refine st ?_
            simp
            have r10 := strings_CutSuffix_ok v5.1 [32, 104, 97, 115, 32, 99, 104, 97, 110, 103, 101, 100] v8 q9
            try simp [] at r10
            refine callPure r10 (by simp) rfl ?_
            simp
          refine cut 29 0 [(2, .mptr 0 0)] [[.int .i64 4, .str v8.1]] ?_ ?_
          · refine st ?_
            simp
          refine awp_ret ?_
          refine ret_seq ?_
          obtain rfl := Option.some.inj h
          simp
        · refine condF rfl g7 ?_
          refine awp_skip ?_
          refine seq_eq ?_
          refine cut 29 0 [(2, .mptr 0 0)] [[.int .i64 0, .str ([] : List UInt8)]] ?_ ?_
          · refine st ?_
            simp
          refine awp_ret ?_
          obtain rfl := Option.some.inj h
          simp
end Go.Proofs.YtlhikhaailhoaaaDoor
set_option linter.unusedVariables false
set_option linter.unusedSimpArgs false
set_option maxRecDepth 100000
set_option maxHeartbeats 1000000
namespace Go.Proofs.YtlhikhaailhoaaaDoor
open Go Go.Abs
theorem explain_Parse_ok (fuel : Nat) (s1 : (List UInt8)) (r : Api.Step × Int) (h : M.explain_Parse fuel s1 = some r) : Pure Tryd.prog 7 [.str s1] (.tup [.agg [.str r.1.Unit, .int .i64 r.1.Reason.Op, .str r.1.Reason.Unit, .bool r.1.Compiled, .int .i64 r.1.Code, .bool r.1.Same], .int .i64 r.2]) := by
  rw [M.explain_Parse] at h
  refine pure_of_body Tryd.func7 (by rfl) (by rfl) (by simp) (by simp) (by simp) ?_
  refine cut 68 0 [(0, .str s1), (2, .mptr 0 0)] [[.str ([] : List UInt8), .int .i64 0, .str ([] : List UInt8), .bool false, .int .i64 0, .bool false]] ?_ ?_
  · refine st ?_
    simp
  refine awp_seq ?_
  refine cut 68 0 [(0, .str s1), (2, .mptr 0 0), (14, .bool (ltI 16384 (s1.length : Int)))] [[.str ([] : List UInt8), .int .i64 0, .str ([] : List UInt8), .bool false, .int .i64 0, .bool false]] ?_ ?_
  · refine st ?_
    simp
  rcases sp h with ⟨g2, h⟩ | ⟨g2, h⟩
  · have c3 := ltT g2
    refine condT rfl g2 ?_
    refine factS 0 rfl fun f4 => ?_
    refine cut 68 0 [(2, .mptr 0 0), (3, .int .i64 5)] [[.str ([] : List UInt8), .int .i64 0, .str ([] : List UInt8), .bool false, .int .i64 0, .bool false]] ?_ ?_
    · refine st ?_
      simp
    refine awp_ret ?_
    refine ret_seq ?_
    obtain rfl := Option.some.inj h
    simp
  · have c5 := ltF g2
    refine condF rfl g2 ?_
    refine factS 0 rfl fun f6 => ?_
    refine awp_skip ?_
    refine seq_eq ?_
    obtain ⟨v7, q8, h⟩ := bs h
    refine cut 68 0 [(0, .str s1), (2, .mptr 0 0), (4, .str v7.1), (5, .str v7.2.1)] [[.str ([] : List UInt8), .int .i64 0, .str ([] : List UInt8), .bool false, .int .i64 0, .bool false]] ?_ ?_
    · refine st ?_
      simp
      have r58 := strings_Cut_ok s1 [58, 32] v7 q8
      try simp [] at r58
      refine callPure r58 (by simp) rfl ?_
      simp
    obtain ⟨v9, q10, h⟩ := bs h
    refine cut 68 0 [(0, .str s1), (2, .mptr 0 0), (4, .str v7.1), (7, .sl (v9.map cS))] [[.str ([] : List UInt8), .int .i64 0, .str ([] : List UInt8), .bool false, .int .i64 0, .bool false]] ?_ ?_
    · refine st ?_
      simp
      have r57 := strings_Split_ok v7.2.1 [59, 32] v9 q10
      try simp [] at r57
      refine callPure r57 (by simp) rfl ?_
      simp
    refine awp_seq ?_
    refine cut 68 0 [(0, .str s1), (2, .mptr 0 0), (4, .str v7.1), (7, .sl (v9.map cS)), (26, .bool (!(eqI (v9.length : Int) 4)))] [[.str ([] : List UInt8), .int .i64 0, .str ([] : List UInt8), .bool false, .int .i64 0, .bool false]] ?_ ?_
    · refine st ?_
      simp
    rcases sp h with ⟨g11, h⟩ | ⟨g11, h⟩
    · have g12 := notT g11
      have c13 := eqF g12
      refine condT rfl g11 ?_
      refine cut 68 0 [(2, .mptr 0 0), (3, .int .i64 3)] [[.str ([] : List UInt8), .int .i64 0, .str ([] : List UInt8), .bool false, .int .i64 0, .bool false]] ?_ ?_
      · refine st ?_
        simp
      refine awp_ret ?_
      refine ret_seq ?_
      obtain rfl := Option.some.inj h
      simp
    · have g14 := notF g11
      have c15 := eqT g14
      refine condF rfl g11 ?_
      refine awp_skip ?_
      refine seq_eq ?_
      obtain ⟨x16, q17, h⟩ := bs h
      obtain ⟨v18, q19, h⟩ := bs h
      obtain ⟨x20, q21, h⟩ := bs h
      obtain ⟨x22, q23, h⟩ := bs h
      refine cut 68 0 [(0, .str s1), (2, .mptr 0 0), (7, .sl (v9.map cS)), (8, .mptr 1 0)] [[.str ([] : List UInt8), .int .i64 0, .str ([] : List UInt8), .bool false, .int .i64 0, .bool false], [.str v7.1, .int .i64 v18.Op, .str v18.Unit, .bool (eqS x20 [99, 111, 109, 112, 105, 108, 101, 100]), .int .i64 0, .bool (eqS x22 [115, 97, 109, 101, 32, 105, 110, 116, 101, 114, 102, 97, 99, 101])]] ?_ ?_
      · refine awp_region_draw [] mixed (n := 68) rfl (by decide) ?_
        simp [q17, q21, q23]
        have r56 := explain_parsed_ok x16 v18 q19
        try simp [q17, q21, q23] at r56
        refine callD r56 (by simp) rfl ?_
        simp [q17, q21, q23]
      refine awp_seq ?_
      refine cut 68 0 [(0, .str s1), (2, .mptr 0 0), (7, .sl (v9.map cS)), (8, .mptr 1 0), (9, .int .i64 0)] [[.str ([] : List UInt8), .int .i64 0, .str ([] : List UInt8), .bool false, .int .i64 0, .bool false], [.str v7.1, .int .i64 v18.Op, .str v18.Unit, .bool (eqS x20 [99, 111, 109, 112, 105, 108, 101, 100]), .int .i64 0, .bool (eqS x22 [115, 97, 109, 101, 32, 105, 110, 116, 101, 114, 102, 97, 99, 101])]] ?_ ?_
      · refine st ?_
        simp
      refine awp_block ?_
      obtain ⟨o26, l27, h⟩ := bs h
      refine awp_inv (fun p : Nat × Nat × Nat => mkS 68 0 [(0, .str s1), (2, .mptr 0 0), (7, .sl (v9.map cS)), (8, .mptr 1 0), (9, .int .i64 ((p.2.2 : Nat) : Int))] [[.str ([] : List UInt8), .int .i64 0, .str ([] : List UInt8), .bool false, .int .i64 0, .bool false], [.str v7.1, .int .i64 v18.Op, .str v18.Unit, .bool (eqS x20 [99, 111, 109, 112, 105, 108, 101, 100]), .int .i64 ((p.2.1 : Nat) : Int), .bool (eqS x22 [115, 97, 109, 101, 32, 105, 110, 116, 101, 114, 102, 97, 99, 101])]]) (fun p => M.explain_Parse_l1 v9 p.1 p.2.1 p.2.2 = some o26) (fun p => p.1) (fuel, 0, 0) l27 (le_mkS (by simp)) ?_
      rintro ⟨k28, Code24, e25⟩ l27
      dsimp only at l27 ⊢
      cases k28 with
      | zero =>
        rw [M.explain_Parse_l1] at l27; cases l27
      | succ k29 =>
        rw [M.explain_Parse_l1] at l27
        refine awp_seq ?_
        refine cut 68 0 [(0, .str s1), (2, .mptr 0 0), (7, .sl (v9.map cS)), (8, .mptr 1 0), (9, .int .i64 ((e25 : Nat) : Int)), (43, .bool (leI ((e25 : Nat) : Int) 30))] [[.str ([] : List UInt8), .int .i64 0, .str ([] : List UInt8), .bool false, .int .i64 0, .bool false], [.str v7.1, .int .i64 v18.Op, .str v18.Unit, .bool (eqS x20 [99, 111, 109, 112, 105, 108, 101, 100]), .int .i64 ((Code24 : Nat) : Int), .bool (eqS x22 [115, 97, 109, 101, 32, 105, 110, 116, 101, 114, 102, 97, 99, 101])]] ?_ ?_
        · refine st ?_
          simp
        rcases sp l27 with ⟨g30, l27⟩ | ⟨g30, l27⟩
        · have c31 := leT g30
          refine condT rfl g30 ?_
          refine awp_skip ?_
          refine seq_eq ?_
          refine awp_seq ?_
          refine awp_block ?_
          obtain ⟨v32, q33, l27⟩ := bs l27
          obtain ⟨x34, q35, l27⟩ := bs l27
          refine cut 68 0 [(0, .str s1), (2, .mptr 0 0), (7, .sl (v9.map cS)), (8, .mptr 1 0), (9, .int .i64 ((e25 : Nat) : Int)), (51, .bool (eqS v32 x34))] [[.str ([] : List UInt8), .int .i64 0, .str ([] : List UInt8), .bool false, .int .i64 0, .bool false], [.str v7.1, .int .i64 v18.Op, .str v18.Unit, .bool (eqS x20 [99, 111, 109, 112, 105, 108, 101, 100]), .int .i64 ((Code24 : Nat) : Int), .bool (eqS x22 [115, 97, 109, 101, 32, 105, 110, 116, 101, 114, 102, 97, 99, 101])]] ?_ ?_
          · refine awp_region_draw [] mixed (n := 68) rfl (by decide) ?_
            simp [q35]
            have r39 := explain_Error_ok ((e25 : Nat) : Int) v32 q33
            try simp [q35] at r39
            refine callD r39 (by simp) rfl ?_
            simp [q35]
          rcases sp l27 with ⟨g36, l27⟩ | ⟨g36, l27⟩
          · refine condT rfl g36 ?_
            refine last 68 0 [(0, .str s1), (2, .mptr 0 0), (7, .sl (v9.map cS)), (8, .mptr 1 0), (9, .int .i64 ((e25 : Nat) : Int))] [[.str ([] : List UInt8), .int .i64 0, .str ([] : List UInt8), .bool false, .int .i64 0, .bool false], [.str v7.1, .int .i64 v18.Op, .str v18.Unit, .bool (eqS x20 [99, 111, 109, 112, 105, 108, 101, 100]), .int .i64 ((e25 : Nat) : Int), .bool (eqS x22 [115, 97, 109, 101, 32, 105, 110, 116, 101, 114, 102, 97, 99, 101])]] ?_ fun zz hs => ?_
            · refine st ?_
              simp
            refine blk_n ?_
            refine seq_le ?_ hs
            have q37 : Rng .i64 (((e25 : Nat) : Int) + 1) := by simp only [Rng, inR]; omega
            try simp at q37
            refine last 68 0 [(0, .str s1), (2, .mptr 0 0), (7, .sl (v9.map cS)), (8, .mptr 1 0), (9, .int .i64 ((e25 + 1 : Nat) : Int))] [[.str ([] : List UInt8), .int .i64 0, .str ([] : List UInt8), .bool false, .int .i64 0, .bool false], [.str v7.1, .int .i64 v18.Op, .str v18.Unit, .bool (eqS x20 [99, 111, 109, 112, 105, 108, 101, 100]), .int .i64 ((e25 : Nat) : Int), .bool (eqS x22 [115, 97, 109, 101, 32, 105, 110, 116, 101, 114, 102, 97, 99, 101])]] ?_ fun zz hs => ?_
            · refine st ?_
              simp [q37]
            exact ⟨(k29, e25, e25 + 1), hs, l27, by simp⟩
          · refine condF rfl g36 ?_
            refine awp_skip ?_
            refine blk_n ?_
            refine seq_eq ?_
            have q38 : Rng .i64 (((e25 : Nat) : Int) + 1) := by simp only [Rng, inR]; omega
            try simp at q38
            refine last 68 0 [(0, .str s1), (2, .mptr 0 0), (7, .sl (v9.map cS)), (8, .mptr 1 0), (9, .int .i64 ((e25 + 1 : Nat) : Int))] [[.str ([] : List UInt8), .int .i64 0, .str ([] : List UInt8), .bool false, .int .i64 0, .bool false], [.str v7.1, .int .i64 v18.Op, .str v18.Unit, .bool (eqS x20 [99, 111, 109, 112, 105, 108, 101, 100]), .int .i64 ((Code24 : Nat) : Int), .bool (eqS x22 [115, 97, 109, 101, 32, 105, 110, 116, 101, 114, 102, 97, 99, 101])]] ?_ fun zz hs => ?_
            · refine st ?_
              simp [q38]
            exact ⟨(k29, Code24, e25 + 1), hs, l27, by simp⟩
        · have c40 := leF g30
          refine condF rfl g30 ?_
          refine awp_exit ?_
          refine exit_seq ?_
          have q41 := Option.some.inj l27
          have q41 := q41.symm
          refine exit_seq ?_
          refine exit_blk ?_
          refine seq_le (t := mkS 68 0 [(0, .str s1), (2, .mptr 0 0), (8, .mptr 1 0)] [[.str ([] : List UInt8), .int .i64 0, .str ([] : List UInt8), .bool false, .int .i64 0, .bool false], [.str v7.1, .int .i64 v18.Op, .str v18.Unit, .bool (eqS x20 [99, 111, 109, 112, 105, 108, 101, 100]), .int .i64 o26, .bool (eqS x22 [115, 97, 109, 101, 32, 105, 110, 116, 101, 114, 102, 97, 99, 101])]]) ?_ (le_mkS (by simp [q41]))
          refine awp_seq ?_
          obtain ⟨v42, q43, h⟩ := bs h
          refine cut 68 0 [(0, .str s1), (2, .mptr 0 0), (8, .mptr 1 0), (10, .str v42.1), (11, .int .i64 v42.2)] [[.str ([] : List UInt8), .int .i64 0, .str ([] : List UInt8), .bool false, .int .i64 0, .bool false], [.str v7.1, .int .i64 v18.Op, .str v18.Unit, .bool (eqS x20 [99, 111, 109, 112, 105, 108, 101, 100]), .int .i64 o26, .bool (eqS x22 [115, 97, 109, 101, 32, 105, 110, 116, 101, 114, 102, 97, 99, 101])]] ?_ ?_
          · refine st ?_
            simp
            have r55 := explain_Step_ok fuel (Api.Step.mk v7.1 v18 (eqS x20 [99, 111, 109, 112, 105, 108, 101, 100]) o26 (eqS x22 [115, 97, 109, 101, 32, 105, 110, 116, 101, 114, 102, 97, 99, 101])) v42 q43
            try simp [] at r55
            refine callPure r55 (by simp) rfl ?_
            simp
          refine cut 68 0 [(2, .mptr 0 0), (8, .mptr 1 0), (65, .bool ((!(eqI v42.2 0)) || (!(eqS v42.1 s1))))] [[.str ([] : List UInt8), .int .i64 0, .str ([] : List UInt8), .bool false, .int .i64 0, .bool false], [.str v7.1, .int .i64 v18.Op, .str v18.Unit, .bool (eqS x20 [99, 111, 109, 112, 105, 108, 101, 100]), .int .i64 o26, .bool (eqS x22 [115, 97, 109, 101, 32, 105, 110, 116, 101, 114, 102, 97, 99, 101])]] ?_ ?_
          · rcases tf (!(eqI v42.2 0)) with g44 | g44
            · have g45 := notT g44
              have c46 := eqF g45
              refine st ?_
              simp [g44]
            · have g47 := notF g44
              have c48 := eqT g47
              refine st ?_
              simp [g44]
          rcases sp h with ⟨g49, h⟩ | ⟨g49, h⟩
          · refine condT rfl g49 ?_
            refine cut 68 0 [(2, .mptr 0 0), (3, .int .i64 3)] [[.str ([] : List UInt8), .int .i64 0, .str ([] : List UInt8), .bool false, .int .i64 0, .bool false], [.str v7.1, .int .i64 v18.Op, .str v18.Unit, .bool (eqS x20 [99, 111, 109, 112, 105, 108, 101, 100]), .int .i64 o26, .bool (eqS x22 [115, 97, 109, 101, 32, 105, 110, 116, 101, 114, 102, 97, 99, 101])]] ?_ ?_
            · refine st ?_
              simp
            refine awp_ret ?_
            refine ret_seq ?_
            obtain rfl := Option.some.inj h
            simp
          · obtain ⟨g50, g51⟩ := orF g49
            have g52 := notF g50
            have c53 := eqT g52
            have g54 := notF g51
            refine condF rfl g49 ?_
            refine awp_skip ?_
            refine seq_eq ?_
            refine cut 68 0 [(2, .mptr 0 0), (3, .int .i64 0)] [[.str v7.1, .int .i64 v18.Op, .str v18.Unit, .bool (eqS x20 [99, 111, 109, 112, 105, 108, 101, 100]), .int .i64 o26, .bool (eqS x22 [115, 97, 109, 101, 32, 105, 110, 116, 101, 114, 102, 97, 99, 101])], [.str v7.1, .int .i64 v18.Op, .str v18.Unit, .bool (eqS x20 [99, 111, 109, 112, 105, 108, 101, 100]), .int .i64 o26, .bool (eqS x22 [115, 97, 109, 101, 32, 105, 110, 116, 101, 114, 102, 97, 99, 101])]] ?_ ?_
            · refine st ?_
              simp
            refine awp_ret ?_
            obtain rfl := Option.some.inj h
            simp
end Go.Proofs.YtlhikhaailhoaaaDoor
set_option linter.unusedVariables false
set_option linter.unusedSimpArgs false
set_option maxRecDepth 100000
set_option maxHeartbeats 1000000
namespace Go.Proofs.YtlhikhaailhoaaaDoor
open Go Go.Abs
theorem law55_awake_ok (fuel : Nat) (r : Bool) (h : M.law55_awake fuel = some r) : Pure Tryd.prog 6 [] (.bool r) := by
  rw [M.law55_awake] at h
  refine pure_of_body Tryd.func6 (by rfl) (by rfl) (by simp) (by simp) (by simp) ?_
  refine cut 33 0 [] [] ?_ ?_
  · refine st ?_
    simp
  refine cut 33 0 [(1, .mptr 0 0)] [[.str [65], .int .i64 4, .str [66], .bool true, .int .i64 0, .bool true]] ?_ ?_
  · refine st ?_
    simp
  obtain ⟨v1, q2, h⟩ := bs h
  refine cut 33 0 [(1, .mptr 0 0), (2, .str v1.1), (3, .int .i64 v1.2)] [[.str [65], .int .i64 4, .str [66], .bool true, .int .i64 0, .bool true]] ?_ ?_
  · refine st ?_
    simp
    have r11 := explain_Step_ok fuel (Api.Step.mk [65] (Api.Reason.mk 4 [66]) true 0 true) v1 q2
    try simp [] at r11
    refine callPure r11 (by simp) rfl ?_
    simp
  obtain ⟨v3, q4, h⟩ := bs h
  refine cut 33 0 [(1, .mptr 0 0), (2, .str v1.1), (3, .int .i64 v1.2), (4, .mptr 1 0), (5, .int .i64 v3.2)] [[.str [65], .int .i64 4, .str [66], .bool true, .int .i64 0, .bool true], [.str v3.1.Unit, .int .i64 v3.1.Reason.Op, .str v3.1.Reason.Unit, .bool v3.1.Compiled, .int .i64 v3.1.Code, .bool v3.1.Same]] ?_ ?_
  · refine st ?_
    simp
    have r10 := explain_Parse_ok fuel v1.1 v3 q4
    try simp [] at r10
    refine callPure r10 (by simp) rfl ?_
    simp
  refine cut 33 0 [(0, .bool ((eqS v1.1 [65, 58, 32, 116, 104, 101, 32, 105, 110, 116, 101, 114, 102, 97, 99, 101, 32, 111, 102, 32, 66, 32, 104, 97, 115, 32, 99, 104, 97, 110, 103, 101, 100, 59, 32, 99, 111, 109, 112, 105, 108, 101, 100, 59, 32, 115, 97, 109, 101, 32, 105, 110, 116, 101, 114, 102, 97, 99, 101, 59, 32, 110, 111, 32, 101, 114, 114, 111, 114]) && ((eqI v1.2 0) && (((eqS v3.1.Unit [65]) && (((eqI v3.1.Reason.Op 4) && (eqS v3.1.Reason.Unit [66])) && ((eqB v3.1.Compiled true) && ((eqI v3.1.Code 0) && (eqB v3.1.Same true))))) && (eqI v3.2 0)))))] [[.str [65], .int .i64 4, .str [66], .bool true, .int .i64 0, .bool true], [.str v3.1.Unit, .int .i64 v3.1.Reason.Op, .str v3.1.Reason.Unit, .bool v3.1.Compiled, .int .i64 v3.1.Code, .bool v3.1.Same]] ?_ ?_
  · rcases tf (eqS v1.1 [65, 58, 32, 116, 104, 101, 32, 105, 110, 116, 101, 114, 102, 97, 99, 101, 32, 111, 102, 32, 66, 32, 104, 97, 115, 32, 99, 104, 97, 110, 103, 101, 100, 59, 32, 99, 111, 109, 112, 105, 108, 101, 100, 59, 32, 115, 97, 109, 101, 32, 105, 110, 116, 101, 114, 102, 97, 99, 101, 59, 32, 110, 111, 32, 101, 114, 114, 111, 114]) with g5 | g5
    · rcases tf (eqI v1.2 0) with g6 | g6
      · have c7 := eqT g6
        rcases tf ((eqS v3.1.Unit [65]) && (((eqI v3.1.Reason.Op 4) && (eqS v3.1.Reason.Unit [66])) && ((eqB v3.1.Compiled true) && ((eqI v3.1.Code 0) && (eqB v3.1.Same true))))) with g8 | g8
        · refine st ?_
          simp [g5, g6, g8]
        · refine st ?_
          simp [g5, g6, g8]
      · have c9 := eqF g6
        refine st ?_
        simp [g5, g6]
    · refine st ?_
      simp [g5]
  refine awp_ret ?_
  obtain rfl := Option.some.inj h
  simp
end Go.Proofs.YtlhikhaailhoaaaDoor
set_option linter.unusedVariables false
set_option linter.unusedSimpArgs false
set_option maxRecDepth 100000
set_option maxHeartbeats 1000000
namespace Go.Proofs.YtlhikhaailhoaaaDoor
open Go Go.Abs
theorem ref01_Capital_ok (c1 : UInt8) (r : Bool) (h : M.ref01_Capital c1 = some r) : Pure Tryd.prog 46 [.int .u8 (c1.toNat : Int)] (.bool r) := by
  rw [M.ref01_Capital] at h
  refine pure_of_body Tryd.func46 (by rfl) (by rfl) (by simp) (by simp) (by simp) ?_
  refine cut 9 0 [(0, .int .u8 (c1.toNat : Int))] [] ?_ ?_
  · refine st ?_
    simp
  refine cut 9 0 [(2, .bool ((leI 65 (c1.toNat : Int)) && (leI (c1.toNat : Int) 90)))] [] ?_ ?_
  · rcases tf (leI 65 (c1.toNat : Int)) with g2 | g2
    · have c3 := leT g2
      refine st ?_
      simp [g2]
    · have c4 := leF g2
      refine st ?_
      simp [g2]
  refine awp_ret ?_
  obtain rfl := Option.some.inj h
  simp
end Go.Proofs.YtlhikhaailhoaaaDoor
set_option linter.unusedVariables false
set_option linter.unusedSimpArgs false
set_option maxRecDepth 100000
set_option maxHeartbeats 1000000
namespace Go.Proofs.YtlhikhaailhoaaaDoor
open Go Go.Abs
theorem ref01_Small_ok (c1 : UInt8) (r : Bool) (h : M.ref01_Small c1 = some r) : Pure Tryd.prog 70 [.int .u8 (c1.toNat : Int)] (.bool r) := by
  rw [M.ref01_Small] at h
  refine pure_of_body Tryd.func70 (by rfl) (by rfl) (by simp) (by simp) (by simp) ?_
  refine cut 9 0 [(0, .int .u8 (c1.toNat : Int))] [] ?_ ?_
  · refine st ?_
    simp
  refine cut 9 0 [(2, .bool ((leI 97 (c1.toNat : Int)) && (leI (c1.toNat : Int) 122)))] [] ?_ ?_
  · rcases tf (leI 97 (c1.toNat : Int)) with g2 | g2
    · have c3 := leT g2
      refine st ?_
      simp [g2]
    · have c4 := leF g2
      refine st ?_
      simp [g2]
  refine awp_ret ?_
  obtain rfl := Option.some.inj h
  simp
end Go.Proofs.YtlhikhaailhoaaaDoor
set_option linter.unusedVariables false
set_option linter.unusedSimpArgs false
set_option maxRecDepth 100000
set_option maxHeartbeats 1000000
namespace Go.Proofs.YtlhikhaailhoaaaDoor
open Go Go.Abs
theorem ref01_Digit_ok (c1 : UInt8) (r : Bool) (h : M.ref01_Digit c1 = some r) : Pure Tryd.prog 71 [.int .u8 (c1.toNat : Int)] (.bool r) := by
  rw [M.ref01_Digit] at h
  refine pure_of_body Tryd.func71 (by rfl) (by rfl) (by simp) (by simp) (by simp) ?_
  refine cut 9 0 [(0, .int .u8 (c1.toNat : Int))] [] ?_ ?_
  · refine st ?_
    simp
  refine cut 9 0 [(2, .bool ((leI 48 (c1.toNat : Int)) && (leI (c1.toNat : Int) 57)))] [] ?_ ?_
  · rcases tf (leI 48 (c1.toNat : Int)) with g2 | g2
    · have c3 := leT g2
      refine st ?_
      simp [g2]
    · have c4 := leF g2
      refine st ?_
      simp [g2]
  refine awp_ret ?_
  obtain rfl := Option.some.inj h
  simp
end Go.Proofs.YtlhikhaailhoaaaDoor
set_option linter.unusedVariables false
set_option linter.unusedSimpArgs false
set_option maxRecDepth 100000
set_option maxHeartbeats 1000000
namespace Go.Proofs.YtlhikhaailhoaaaDoor
open Go Go.Abs
theorem ref01_Inner_ok (c1 : UInt8) (r : Bool) (h : M.ref01_Inner c1 = some r) : Pure Tryd.prog 68 [.int .u8 (c1.toNat : Int)] (.bool r) := by
  rw [M.ref01_Inner] at h
  refine pure_of_body Tryd.func68 (by rfl) (by rfl) (by simp) (by simp) (by simp) ?_
  refine cut 17 0 [(0, .int .u8 (c1.toNat : Int))] [] ?_ ?_
  · refine st ?_
    simp
  obtain ⟨b11, q12, h⟩ := bs h
  refine cut 17 0 [(2, .bool b11)] [] ?_ ?_
  · obtain ⟨v2, q3, q12⟩ := bs q12
    rcases sp q12 with ⟨g4, q12⟩ | ⟨g4, q12⟩
    · obtain rfl := Option.some.inj q12
      refine st ?_
      simp [g4]
      have r13 := ref01_Small_ok c1 v2 q3
      try simp [g4] at r13
      refine callPure r13 (by simp) rfl ?_
      simp [g4]
    · obtain ⟨v5, q6, q12⟩ := bs q12
      rcases sp q12 with ⟨g7, q12⟩ | ⟨g7, q12⟩
      · obtain rfl := Option.some.inj q12
        refine st ?_
        simp [g4, g7]
        have r14 := ref01_Small_ok c1 v2 q3
        try simp [g4, g7] at r14
        refine callPure r14 (by simp) rfl ?_
        simp [g4, g7]
        have r15 := ref01_Capital_ok c1 v5 q6
        try simp [g4, g7] at r15
        refine callPure r15 (by simp) rfl ?_
        simp [g4, g7]
      · obtain ⟨v8, q9, q12⟩ := bs q12
        rcases sp q12 with ⟨g10, q12⟩ | ⟨g10, q12⟩
        · obtain rfl := Option.some.inj q12
          refine st ?_
          simp [g4, g7, g10]
          have r16 := ref01_Small_ok c1 v2 q3
          try simp [g4, g7, g10] at r16
          refine callPure r16 (by simp) rfl ?_
          simp [g4, g7, g10]
          have r17 := ref01_Capital_ok c1 v5 q6
          try simp [g4, g7, g10] at r17
          refine callPure r17 (by simp) rfl ?_
          simp [g4, g7, g10]
          have r18 := ref01_Digit_ok c1 v8 q9
          try simp [g4, g7, g10] at r18
          refine callPure r18 (by simp) rfl ?_
          simp [g4, g7, g10]
        · obtain rfl := Option.some.inj q12
          refine st ?_
          simp [g4, g7, g10]
          have r19 := ref01_Small_ok c1 v2 q3
          try simp [g4, g7, g10] at r19
          refine callPure r19 (by simp) rfl ?_
          simp [g4, g7, g10]
          have r20 := ref01_Capital_ok c1 v5 q6
          try simp [g4, g7, g10] at r20
          refine callPure r20 (by simp) rfl ?_
          simp [g4, g7, g10]
          have r21 := ref01_Digit_ok c1 v8 q9
          try simp [g4, g7, g10] at r21
          refine callPure r21 (by simp) rfl ?_
          simp [g4, g7, g10]
  refine awp_ret ?_
  obtain rfl := Option.some.inj h
  simp
end Go.Proofs.YtlhikhaailhoaaaDoor
set_option linter.unusedVariables false
set_option linter.unusedSimpArgs false
set_option maxRecDepth 100000
set_option maxHeartbeats 1000000
namespace Go.Proofs.YtlhikhaailhoaaaDoor
open Go Go.Abs
theorem ref01_inner_ok (fuel : Nat) (s1 : (List UInt8)) (r : Bool) (h : M.ref01_inner fuel s1 = some r) : Pure Tryd.prog 58 [.str s1] (.bool r) := by
  rw [M.ref01_inner] at h
  refine pure_of_body Tryd.func58 (by rfl) (by rfl) (by simp) (by simp) (by simp) ?_
  refine cut 15 0 [(0, .str s1)] [] ?_ ?_
  · refine st ?_
    simp
  refine awp_seq ?_
  refine cut 15 0 [(0, .str s1), (3, .int .i64 0)] [] ?_ ?_
  · refine st ?_
    simp
  refine awp_block ?_
  obtain ⟨o4, l5, h⟩ := bs h
  refine awp_inv (fun p : Nat × Nat => mkS 15 0 [(0, .str s1), (3, .int .i64 ((p.2 : Nat) : Int))] []) (fun p => M.ref01_inner_l1 s1 p.1 p.2 = some o4) (fun p => p.1) (fuel, 0) l5 (le_mkS (by simp)) ?_
  rintro ⟨k6, i2⟩ l5
  dsimp only at l5 ⊢
  cases k6 with
  | zero =>
    rw [M.ref01_inner_l1] at l5; cases l5
  | succ k7 =>
    rw [M.ref01_inner_l1] at l5
    refine awp_seq ?_
    refine cut 15 0 [(0, .str s1), (3, .int .i64 ((i2 : Nat) : Int)), (7, .bool (ltI ((i2 : Nat) : Int) (s1.length : Int)))] [] ?_ ?_
    · refine st ?_
      simp
    rcases sp l5 with ⟨g8, l5⟩ | ⟨g8, l5⟩
    · have c9 := ltT g8
      refine condT rfl g8 ?_
      refine factS 0 rfl fun f10 => ?_
      refine awp_skip ?_
      refine seq_eq ?_
      refine awp_seq ?_
      refine awp_block ?_
      obtain ⟨c11, q12, l5⟩ := bs l5
      obtain ⟨v13, q14, l5⟩ := bs l5
      refine cut 15 0 [(0, .str s1), (3, .int .i64 ((i2 : Nat) : Int)), (14, .bool (!v13))] [] ?_ ?_
      · refine st ?_
        simp [q12]
        have r19 := ref01_Inner_ok c11 v13 q14
        try simp [q12] at r19
        refine callPure r19 (by simp) rfl ?_
        simp [q12]
      rcases sp l5 with ⟨g15, l5⟩ | ⟨g15, l5⟩
      · have g16 := notT g15
        refine condT rfl g15 ?_
        refine cut 15 0 [(2, .bool false)] [] ?_ ?_
        · refine st ?_
          simp
        refine awp_ret ?_
        refine ret_blk ?_
        refine ret_seq ?_
        replace h := retL l5 h
        refine ret_seq ?_
        refine ret_blk ?_
        refine ret_seq ?_
        obtain rfl := Option.some.inj h
        simp
      · have g17 := notF g15
        refine condF rfl g15 ?_
        refine awp_skip ?_
        refine blk_n ?_
        refine seq_eq ?_
        have q18 : Rng .i64 (((i2 : Nat) : Int) + 1) := by simp only [Rng, inR]; omega
        try simp at q18
        refine last 15 0 [(0, .str s1), (3, .int .i64 ((i2 + 1 : Nat) : Int))] [] ?_ fun zz hs => ?_
        · refine st ?_
          simp [q18]
        exact ⟨(k7, i2 + 1), hs, l5, by simp⟩
    · have c20 := ltF g8
      refine condF rfl g8 ?_
      refine factS 0 rfl fun f21 => ?_
      refine awp_exit ?_
      refine exit_seq ?_
      rcases o4 with o4 | o3
      · cases l5
      have q22 := Sum.inr.inj (Option.some.inj l5)
      replace h := elimR h
      refine exit_seq ?_
      refine exit_blk ?_
      refine seq_le (t := mkS 15 0 [] []) ?_ (le_mkS (by simp []))
      refine cut 15 0 [(2, .bool true)] [] ?_ ?_
      · refine st ?_
        simp
      refine awp_ret ?_
      obtain rfl := Option.some.inj h
      simp
end Go.Proofs.YtlhikhaailhoaaaDoor
set_option linter.unusedVariables false
set_option linter.unusedSimpArgs false
set_option maxRecDepth 100000
set_option maxHeartbeats 1000000
namespace Go.Proofs.YtlhikhaailhoaaaDoor
open Go Go.Abs
theorem ref01_Word_ok (fuel : Nat) (s1 : (List UInt8)) (r : Bool) (h : M.ref01_Word fuel s1 = some r) : Pure Tryd.prog 45 [.str s1] (.bool r) := by
  rw [M.ref01_Word] at h
  refine pure_of_body Tryd.func45 (by rfl) (by rfl) (by simp) (by simp) (by simp) ?_
  refine cut 15 0 [(0, .str s1)] [] ?_ ?_
  · refine st ?_
    simp
  obtain ⟨b12, q13, h⟩ := bs h
  refine cut 15 0 [(2, .bool b12)] [] ?_ ?_
  · rcases sp q13 with ⟨g2, q13⟩ | ⟨g2, q13⟩
    · have c3 := leT g2
      refine factS 0 rfl fun f4 => ?_
      rcases sp q13 with ⟨g5, q13⟩ | ⟨g5, q13⟩
      · have c6 := leT g5
        obtain ⟨v7, q8, q13⟩ := bs q13
        obtain rfl := Option.some.inj q13
        refine st ?_
        simp [g2, g5]
        have r14 := ref01_inner_ok fuel s1 v7 q8
        try simp [g2, g5] at r14
        refine callPure r14 (by simp) rfl ?_
        simp [g2, g5]
      · have c9 := leF g5
        obtain rfl := Option.some.inj q13
        refine st ?_
        simp [g2, g5]
    · have c10 := leF g2
      refine factS 0 rfl fun f11 => ?_
      obtain rfl := Option.some.inj q13
      refine st ?_
      simp [g2]
  refine awp_ret ?_
  obtain rfl := Option.some.inj h
  simp
end Go.Proofs.YtlhikhaailhoaaaDoor
set_option linter.unusedVariables false
set_option linter.unusedSimpArgs false
set_option maxRecDepth 100000
set_option maxHeartbeats 1000000
namespace Go.Proofs.YtlhikhaailhoaaaDoor
open Go Go.Abs
theorem ref01_IsUpper_ok (fuel : Nat) (s1 : (List UInt8)) (r : Bool) (h : M.ref01_IsUpper fuel s1 = some r) : Pure Tryd.prog 35 [.str s1] (.bool r) := by
  rw [M.ref01_IsUpper] at h
  refine pure_of_body Tryd.func35 (by rfl) (by rfl) (by simp) (by simp) (by simp) ?_
  refine cut 10 0 [(0, .str s1)] [] ?_ ?_
  · refine st ?_
    simp
  obtain ⟨b9, q10, h⟩ := bs h
  refine cut 10 0 [(2, .bool b9)] [] ?_ ?_
  · obtain ⟨v2, q3, q10⟩ := bs q10
    rcases sp q10 with ⟨g4, q10⟩ | ⟨g4, q10⟩
    · obtain ⟨c5, q6, q10⟩ := bs q10
      obtain ⟨v7, q8, q10⟩ := bs q10
      obtain rfl := Option.some.inj q10
      refine st ?_
      simp [g4, q6]
      have r11 := ref01_Word_ok fuel s1 v2 q3
      try simp [g4, q6] at r11
      refine callPure r11 (by simp) rfl ?_
      simp [g4, q6]
      have r12 := ref01_Capital_ok c5 v7 q8
      try simp [g4, q6] at r12
      refine callPure r12 (by simp) rfl ?_
      simp [g4, q6]
    · obtain rfl := Option.some.inj q10
      refine st ?_
      simp [g4]
      have r13 := ref01_Word_ok fuel s1 v2 q3
      try simp [g4] at r13
      refine callPure r13 (by simp) rfl ?_
      simp [g4]
  refine awp_ret ?_
  obtain rfl := Option.some.inj h
  simp
end Go.Proofs.YtlhikhaailhoaaaDoor
set_option linter.unusedVariables false
set_option linter.unusedSimpArgs false
set_option maxRecDepth 100000
set_option maxHeartbeats 1000000
namespace Go.Proofs.YtlhikhaailhoaaaDoor
open Go Go.Abs
theorem ref55_Valid_ok (fuel : Nat) (s1 : Api.Step) (r : Bool) (h : M.ref55_Valid fuel s1 = some r) : Pure Tryd.prog 18 [.agg [.str s1.Unit, .int .i64 s1.Reason.Op, .str s1.Reason.Unit, .bool s1.Compiled, .int .i64 s1.Code, .bool s1.Same]] (.bool r) := by
  rw [M.ref55_Valid] at h
  refine pure_of_body Tryd.func18 (by rfl) (by rfl) (by simp) (by simp) (by simp) ?_
  refine cut 41 0 [(1, .mptr 0 0)] [[.str s1.Unit, .int .i64 s1.Reason.Op, .str s1.Reason.Unit, .bool s1.Compiled, .int .i64 s1.Code, .bool s1.Same]] ?_ ?_
  · refine st ?_
    simp
  refine awp_seq ?_
  obtain ⟨b16, q17, h⟩ := bs h
  refine cut 41 0 [(1, .mptr 0 0), (28, .bool b16)] [[.str s1.Unit, .int .i64 s1.Reason.Op, .str s1.Reason.Unit, .bool s1.Compiled, .int .i64 s1.Code, .bool s1.Same]] ?_ ?_
  · obtain ⟨v2, q3, q17⟩ := bs q17
    rcases sp q17 with ⟨g4, q17⟩ | ⟨g4, q17⟩
    · have g5 := notT g4
      obtain rfl := Option.some.inj q17
      refine st ?_
      simp [g4]
      have r25 := ref01_IsUpper_ok fuel s1.Unit v2 q3
      try simp [g4] at r25
      refine callPure r25 (by simp) rfl ?_
      simp [g4]
    · have g6 := notF g4
      rcases sp q17 with ⟨g7, q17⟩ | ⟨g7, q17⟩
      · have c8 := ltT g7
        obtain rfl := Option.some.inj q17
        refine st ?_
        simp [g4, g7]
        have r26 := ref01_IsUpper_ok fuel s1.Unit v2 q3
        try simp [g4, g7] at r26
        refine callPure r26 (by simp) rfl ?_
        simp [g4, g7]
      · have c9 := ltF g7
        rcases sp q17 with ⟨g10, q17⟩ | ⟨g10, q17⟩
        · have c11 := ltT g10
          obtain rfl := Option.some.inj q17
          refine st ?_
          simp [g4, g7, g10]
          have r27 := ref01_IsUpper_ok fuel s1.Unit v2 q3
          try simp [g4, g7, g10] at r27
          refine callPure r27 (by simp) rfl ?_
          simp [g4, g7, g10]
        · have c12 := ltF g10
          rcases sp q17 with ⟨g13, q17⟩ | ⟨g13, q17⟩
          · have c14 := ltT g13
            obtain rfl := Option.some.inj q17
            refine st ?_
            simp [g4, g7, g10, g13]
            have r28 := ref01_IsUpper_ok fuel s1.Unit v2 q3
            try simp [g4, g7, g10, g13] at r28
            refine callPure r28 (by simp) rfl ?_
            simp [g4, g7, g10, g13]
          · have c15 := ltF g13
            obtain rfl := Option.some.inj q17
            refine st ?_
            simp [g4, g7, g10, g13]
            have r29 := ref01_IsUpper_ok fuel s1.Unit v2 q3
            try simp [g4, g7, g10, g13] at r29
            refine callPure r29 (by simp) rfl ?_
            simp [g4, g7, g10, g13]
  rcases sp h with ⟨g18, h⟩ | ⟨g18, h⟩
  · refine condT rfl g18 ?_
    refine cut 41 0 [(2, .bool false)] [[.str s1.Unit, .int .i64 s1.Reason.Op, .str s1.Reason.Unit, .bool s1.Compiled, .int .i64 s1.Code, .bool s1.Same]] ?_ ?_
    · refine st ?_
      simp
    refine awp_ret ?_
    refine ret_seq ?_
    obtain rfl := Option.some.inj h
    simp
  · refine condF rfl g18 ?_
    refine awp_skip ?_
    refine seq_eq ?_
    refine awp_seq ?_
    refine cut 41 0 [(1, .mptr 0 0), (32, .bool (eqI s1.Reason.Op 4))] [[.str s1.Unit, .int .i64 s1.Reason.Op, .str s1.Reason.Unit, .bool s1.Compiled, .int .i64 s1.Code, .bool s1.Same]] ?_ ?_
    · refine st ?_
      simp
    rcases sp h with ⟨g19, h⟩ | ⟨g19, h⟩
    · have c20 := eqT g19
      refine condT rfl g19 ?_
      obtain ⟨v21, q22, h⟩ := bs h
      refine cut 41 0 [(2, .bool v21)] [[.str s1.Unit, .int .i64 s1.Reason.Op, .str s1.Reason.Unit, .bool s1.Compiled, .int .i64 s1.Code, .bool s1.Same]] ?_ ?_
      · refine st ?_
        simp
        have r23 := ref01_IsUpper_ok fuel s1.Reason.Unit v21 q22
        try simp [] at r23
        refine callPure r23 (by simp) rfl ?_
        simp
      refine awp_ret ?_
      refine ret_seq ?_
      obtain rfl := Option.some.inj h
      simp
    · have c24 := eqF g19
      refine condF rfl g19 ?_
      refine awp_skip ?_
      refine seq_eq ?_
      refine cut 41 0 [(2, .bool (eqS s1.Reason.Unit ([] : List UInt8)))] [[.str s1.Unit, .int .i64 s1.Reason.Op, .str s1.Reason.Unit, .bool s1.Compiled, .int .i64 s1.Code, .bool s1.Same]] ?_ ?_
      · refine st ?_
        simp
      refine awp_ret ?_
      obtain rfl := Option.some.inj h
      simp
end Go.Proofs.YtlhikhaailhoaaaDoor
set_option linter.unusedVariables false
set_option linter.unusedSimpArgs false
set_option maxRecDepth 100000
set_option maxHeartbeats 1000000
namespace Go.Proofs.YtlhikhaailhoaaaDoor
open Go Go.Abs
theorem ref55_reason_ok (r1 : Api.Reason) (r : (List UInt8)) (h : M.ref55_reason r1 = some r) : Pure Tryd.prog 36 [.agg [.int .i64 r1.Op, .str r1.Unit]] (.str r) := by
  rw [M.ref55_reason] at h
  refine pure_of_body Tryd.func36 (by rfl) (by rfl) (by simp) (by simp) (by simp) ?_
  refine cut 19 0 [(1, .mptr 0 0)] [[.int .i64 r1.Op, .str r1.Unit]] ?_ ?_
  · refine st ?_
    simp
  refine awp_seq ?_
  refine cut 19 0 [(1, .mptr 0 0), (5, .bool (eqI r1.Op 0))] [[.int .i64 r1.Op, .str r1.Unit]] ?_ ?_
  · refine st ?_
    simp
  rcases sp h with ⟨g2, h⟩ | ⟨g2, h⟩
  · have c3 := eqT g2
    refine condT rfl g2 ?_
    refine cut 19 0 [(2, .str [110, 111, 116, 104, 105, 110, 103, 32, 104, 97, 115, 32, 99, 104, 97, 110, 103, 101, 100])] [[.int .i64 r1.Op, .str r1.Unit]] ?_ ?_
    · refine st ?_
      simp
    refine awp_ret ?_
    refine ret_seq ?_
    obtain rfl := Option.some.inj h
    simp
  · have c4 := eqF g2
    refine condF rfl g2 ?_
    refine awp_skip ?_
    refine seq_eq ?_
    refine awp_seq ?_
    refine cut 19 0 [(1, .mptr 0 0), (8, .bool (eqI r1.Op 1))] [[.int .i64 r1.Op, .str r1.Unit]] ?_ ?_
    · refine st ?_
      simp
    rcases sp h with ⟨g5, h⟩ | ⟨g5, h⟩
    · have c6 := eqT g5
      refine condT rfl g5 ?_
      refine cut 19 0 [(2, .str [110, 101, 118, 101, 114, 32, 98, 117, 105, 108, 116])] [[.int .i64 r1.Op, .str r1.Unit]] ?_ ?_
      · refine st ?_
        simp
      refine awp_ret ?_
      refine ret_seq ?_
      obtain rfl := Option.some.inj h
      simp
    · have c7 := eqF g5
      refine condF rfl g5 ?_
      refine awp_skip ?_
      refine seq_eq ?_
      refine awp_seq ?_
      refine cut 19 0 [(1, .mptr 0 0), (11, .bool (eqI r1.Op 2))] [[.int .i64 r1.Op, .str r1.Unit]] ?_ ?_
      · refine st ?_
        simp
      rcases sp h with ⟨g8, h⟩ | ⟨g8, h⟩
      · have c9 := eqT g8
        refine condT rfl g8 ?_
        refine cut 19 0 [(2, .str [110, 101, 119, 32, 115, 111, 117, 114, 99, 101])] [[.int .i64 r1.Op, .str r1.Unit]] ?_ ?_
        · refine st ?_
          simp
        refine awp_ret ?_
        refine ret_seq ?_
        obtain rfl := Option.some.inj h
        simp
      · have c10 := eqF g8
        refine condF rfl g8 ?_
        refine awp_skip ?_
        refine seq_eq ?_
        refine awp_seq ?_
        refine cut 19 0 [(1, .mptr 0 0), (14, .bool (eqI r1.Op 3))] [[.int .i64 r1.Op, .str r1.Unit]] ?_ ?_
        · refine st ?_
          simp
        rcases sp h with ⟨g11, h⟩ | ⟨g11, h⟩
        · have c12 := eqT g11
          refine condT rfl g11 ?_
          refine cut 19 0 [(2, .str [111, 116, 104, 101, 114, 32, 105, 109, 112, 111, 114, 116, 115])] [[.int .i64 r1.Op, .str r1.Unit]] ?_ ?_
          · refine st ?_
            simp
          refine awp_ret ?_
          refine ret_seq ?_
          obtain rfl := Option.some.inj h
          simp
        · have c13 := eqF g11
          refine condF rfl g11 ?_
          refine awp_skip ?_
          refine seq_eq ?_
          obtain ⟨s14, q15, h⟩ := bs h
          obtain ⟨q16, q17⟩ := cat_ok q15
          try simp at q16
          try simp at q17
          obtain ⟨s18, q19, h⟩ := bs h
          obtain ⟨q20, q21⟩ := cat_ok q19
          try simp at q20
          try simp at q21
          refine cut 19 0 [(2, .str s18)] [[.int .i64 r1.Op, .str r1.Unit]] ?_ ?_
          · refine st ?_
            simp [q16, q17, q20, q21]
          refine awp_ret ?_
          obtain rfl := Option.some.inj h
          simp
end Go.Proofs.YtlhikhaailhoaaaDoor
set_option linter.unusedVariables false
set_option linter.unusedSimpArgs false
set_option maxRecDepth 100000
set_option maxHeartbeats 1000000
namespace Go.Proofs.YtlhikhaailhoaaaDoor
open Go Go.Abs
theorem ref55_Errors_ok (r : (List (List UInt8))) (h : M.ref55_Errors = some r) : Pure Tryd.prog 24 [] (.sl (r.map cS)) := by
  rw [M.ref55_Errors] at h
  refine pure_of_body Tryd.func24 (by rfl) (by rfl) (by simp) (by simp) (by simp) ?_
  refine cut 2 0 [] [] ?_ ?_
  · refine st ?_
    simp
  obtain ⟨l1, q2, h⟩ := bs h
  obtain ⟨q3, q4⟩ := lit_ok q2
  refine cut 2 0 [(0, .osl ⟨1, 9⟩ (l1.map cS))] [] ?_ ?_
  · refine st ?_
    simp [q3, q4]
  refine awp_ret ?_
  obtain rfl := Option.some.inj h
  simp
end Go.Proofs.YtlhikhaailhoaaaDoor
set_option linter.unusedVariables false
set_option linter.unusedSimpArgs false
set_option maxRecDepth 100000
set_option maxHeartbeats 1000000
namespace Go.Proofs.YtlhikhaailhoaaaDoor
open Go Go.Abs
theorem ref55_Error_ok (e1 : Int) (r : (List UInt8)) (h : M.ref55_Error e1 = some r) : Pure Tryd.prog 10 [.int .i64 e1] (.str r) := by
  rw [M.ref55_Error] at h
  refine pure_of_body Tryd.func10 (by rfl) (by rfl) (by simp) (by simp) (by simp) ?_
  refine cut 17 0 [(0, .int .i64 e1)] [] ?_ ?_
  · refine st ?_
    simp
  obtain ⟨v2, q3, h⟩ := bs h
  refine cut 17 0 [(0, .int .i64 e1), (3, .sl (v2.map cS))] [] ?_ ?_
  · refine st ?_
    simp
    have r17 := ref55_Errors_ok v2 q3
    try simp [] at r17
    refine callPure r17 (by simp) rfl ?_
    simp
  refine awp_seq ?_
  refine cut 17 0 [(0, .int .i64 e1), (3, .sl (v2.map cS)), (12, .bool ((ltI e1 0) || (leI (v2.length : Int) e1)))] [] ?_ ?_
  · rcases tf (ltI e1 0) with g4 | g4
    · have c5 := ltT g4
      refine st ?_
      simp [g4]
    · have c6 := ltF g4
      refine st ?_
      simp [g4]
  rcases sp h with ⟨g7, h⟩ | ⟨g7, h⟩
  · refine condT rfl g7 ?_
    refine cut 17 0 [(2, .str [117, 110, 107, 110, 111, 119, 110, 32, 101, 114, 114, 111, 114])] [] ?_ ?_
    · refine st ?_
      simp
    refine awp_ret ?_
    refine ret_seq ?_
    obtain rfl := Option.some.inj h
    simp
  · obtain ⟨g8, g9⟩ := orF g7
    have c10 := ltF g8
    have c11 := leF g9
    refine condF rfl g7 ?_
    refine factL 3 rfl fun f12 => ?_
    rw [List.length_map] at f12
    refine awp_skip ?_
    refine seq_eq ?_
    obtain ⟨x13, q14, h⟩ := bs h
    obtain ⟨q15, q16⟩ := idx_ok q14
    refine cut 17 0 [(2, .str x13)] [] ?_ ?_
    · refine st ?_
      simp [q15, q16]
    refine awp_ret ?_
    obtain rfl := Option.some.inj h
    simp
end Go.Proofs.YtlhikhaailhoaaaDoor
set_option linter.unusedVariables false
set_option linter.unusedSimpArgs false
set_option maxRecDepth 100000
set_option maxHeartbeats 1000000
namespace Go.Proofs.YtlhikhaailhoaaaDoor
open Go Go.Abs
theorem ref55_Text_ok (s1 : Api.Step) (r : (List UInt8)) (h : M.ref55_Text s1 = some r) : Pure Tryd.prog 19 [.agg [.str s1.Unit, .int .i64 s1.Reason.Op, .str s1.Reason.Unit, .bool s1.Compiled, .int .i64 s1.Code, .bool s1.Same]] (.str r) := by
  rw [M.ref55_Text] at h
  refine pure_of_body Tryd.func19 (by rfl) (by rfl) (by simp) (by simp) (by simp) ?_
  refine cut 29 0 [(1, .mptr 0 0)] [[.str s1.Unit, .int .i64 s1.Reason.Op, .str s1.Reason.Unit, .bool s1.Compiled, .int .i64 s1.Code, .bool s1.Same]] ?_ ?_
  · refine st ?_
    simp
  obtain ⟨s2, q3, h⟩ := bs h
  obtain ⟨q4, q5⟩ := cat_ok q3
  try simp at q4
  try simp at q5
  obtain ⟨v6, q7, h⟩ := bs h
  obtain ⟨s8, q9, h⟩ := bs h
  obtain ⟨q10, q11⟩ := cat_ok q9
  try simp at q10
  try simp at q11
  refine cut 29 0 [(1, .mptr 0 0), (3, .str s8)] [[.str s1.Unit, .int .i64 s1.Reason.Op, .str s1.Reason.Unit, .bool s1.Compiled, .int .i64 s1.Code, .bool s1.Same]] ?_ ?_
  · refine awp_region_draw [] mixed (n := 29) rfl (by decide) ?_
    simp [q4, q5, q10, q11]
    have r83 := ref55_reason_ok s1.Reason v6 q7
    try simp [q4, q5, q10, q11] at r83
    refine callD r83 (by simp) rfl ?_
    simp [q4, q5, q10, q11]
  refine awp_seq ?_
  refine cut 29 0 [(1, .mptr 0 0), (3, .str s8), (12, .bool s1.Compiled)] [[.str s1.Unit, .int .i64 s1.Reason.Op, .str s1.Reason.Unit, .bool s1.Compiled, .int .i64 s1.Code, .bool s1.Same]] ?_ ?_
  · refine st ?_
    simp
  rcases sp h with ⟨g12, h⟩ | ⟨g12, h⟩
  · refine condT rfl g12 ?_
    obtain ⟨s13, q14, h⟩ := bs h
    obtain ⟨q15, q16⟩ := cat_ok q14
    try simp at q15
    try simp at q16
    refine last 29 0 [(1, .mptr 0 0), (3, .str s13)] [[.str s1.Unit, .int .i64 s1.Reason.Op, .str s1.Reason.Unit, .bool s1.Compiled, .int .i64 s1.Code, .bool s1.Same]] ?_ fun zz hs => ?_
    · refine st ?_
      simp [q15, q16]
    refine seq_le ?_ hs
    refine awp_seq ?_
    refine cut 29 0 [(1, .mptr 0 0), (3, .str s13), (18, .bool s1.Same)] [[.str s1.Unit, .int .i64 s1.Reason.Op, .str s1.Reason.Unit, .bool s1.Compiled, .int .i64 s1.Code, .bool s1.Same]] ?_ ?_
    · refine st ?_
      simp
    rcases sp h with ⟨g17, h⟩ | ⟨g17, h⟩
    · refine condT rfl g17 ?_
      obtain ⟨s18, q19, h⟩ := bs h
      obtain ⟨q20, q21⟩ := cat_ok q19
      try simp at q20
      try simp at q21
      refine last 29 0 [(1, .mptr 0 0), (3, .str s18)] [[.str s1.Unit, .int .i64 s1.Reason.Op, .str s1.Reason.Unit, .bool s1.Compiled, .int .i64 s1.Code, .bool s1.Same]] ?_ fun zz hs => ?_
      · refine st ?_
        simp [q20, q21]
      refine seq_le ?_ hs
      obtain ⟨s22, q23, h⟩ := bs h
      obtain ⟨q24, q25⟩ := cat_ok q23
      try simp at q24
      try simp at q25
      obtain ⟨v26, q27, h⟩ := bs h
      obtain ⟨s28, q29, h⟩ := bs h
      obtain ⟨q30, q31⟩ := cat_ok q29
      try simp at q30
      try simp at q31
      refine cut 29 0 [(2, .str s28)] [[.str s1.Unit, .int .i64 s1.Reason.Op, .str s1.Reason.Unit, .bool s1.Compiled, .int .i64 s1.Code, .bool s1.Same]] ?_ ?_
      · refine st ?_
        simp [q24, q25, q30, q31]
        have r32 := ref55_Error_ok s1.Code v26 q27
        try simp [q24, q25, q30, q31] at r32
        refine callPure r32 (by simp) rfl ?_
        simp [q24, q25, q30, q31]
      refine awp_ret ?_
      obtain rfl := Option.some.inj h
      simp
    · refine condF rfl g17 ?_
      obtain ⟨s33, q34, h⟩ := bs h
      obtain ⟨q35, q36⟩ := cat_ok q34
      try simp at q35
      try simp at q36
      refine last 29 0 [(1, .mptr 0 0), (3, .str s33)] [[.str s1.Unit, .int .i64 s1.Reason.Op, .str s1.Reason.Unit, .bool s1.Compiled, .int .i64 s1.Code, .bool s1.Same]] ?_ fun zz hs => ?_
      · refine st ?_
        simp [q35, q36]
      refine seq_le ?_ hs
      obtain ⟨s37, q38, h⟩ := bs h
      obtain ⟨q39, q40⟩ := cat_ok q38
      try simp at q39
      try simp at q40
      obtain ⟨v41, q42, h⟩ := bs h
      obtain ⟨s43, q44, h⟩ := bs h
      obtain ⟨q45, q46⟩ := cat_ok q44
      try simp at q45
      try simp at q46
      refine cut 29 0 [(2, .str s43)] [[.str s1.Unit, .int .i64 s1.Reason.Op, .str s1.Reason.Unit, .bool s1.Compiled, .int .i64 s1.Code, .bool s1.Same]] ?_ ?_
      · refine st ?_
        simp [q39, q40, q45, q46]
        have r47 := ref55_Error_ok s1.Code v41 q42
        try simp [q39, q40, q45, q46] at r47
        refine callPure r47 (by simp) rfl ?_
        simp [q39, q40, q45, q46]
      refine awp_ret ?_
      obtain rfl := Option.some.inj h
      simp
  · refine condF rfl g12 ?_
    obtain ⟨s48, q49, h⟩ := bs h
    obtain ⟨q50, q51⟩ := cat_ok q49
    try simp at q50
    try simp at q51
    refine last 29 0 [(1, .mptr 0 0), (3, .str s48)] [[.str s1.Unit, .int .i64 s1.Reason.Op, .str s1.Reason.Unit, .bool s1.Compiled, .int .i64 s1.Code, .bool s1.Same]] ?_ fun zz hs => ?_
    · refine st ?_
      simp [q50, q51]
    refine seq_le ?_ hs
    refine awp_seq ?_
    refine cut 29 0 [(1, .mptr 0 0), (3, .str s48), (18, .bool s1.Same)] [[.str s1.Unit, .int .i64 s1.Reason.Op, .str s1.Reason.Unit, .bool s1.Compiled, .int .i64 s1.Code, .bool s1.Same]] ?_ ?_
    · refine st ?_
      simp
    rcases sp h with ⟨g52, h⟩ | ⟨g52, h⟩
    · refine condT rfl g52 ?_
      obtain ⟨s53, q54, h⟩ := bs h
      obtain ⟨q55, q56⟩ := cat_ok q54
      try simp at q55
      try simp at q56
      refine last 29 0 [(1, .mptr 0 0), (3, .str s53)] [[.str s1.Unit, .int .i64 s1.Reason.Op, .str s1.Reason.Unit, .bool s1.Compiled, .int .i64 s1.Code, .bool s1.Same]] ?_ fun zz hs => ?_
      · refine st ?_
        simp [q55, q56]
      refine seq_le ?_ hs
      obtain ⟨s57, q58, h⟩ := bs h
      obtain ⟨q59, q60⟩ := cat_ok q58
      try simp at q59
      try simp at q60
      obtain ⟨v61, q62, h⟩ := bs h
      obtain ⟨s63, q64, h⟩ := bs h
      obtain ⟨q65, q66⟩ := cat_ok q64
      try simp at q65
      try simp at q66
      refine cut 29 0 [(2, .str s63)] [[.str s1.Unit, .int .i64 s1.Reason.Op, .str s1.Reason.Unit, .bool s1.Compiled, .int .i64 s1.Code, .bool s1.Same]] ?_ ?_
      · refine st ?_
        simp [q59, q60, q65, q66]
        have r67 := ref55_Error_ok s1.Code v61 q62
        try simp [q59, q60, q65, q66] at r67
        refine callPure r67 (by simp) rfl ?_
        simp [q59, q60, q65, q66]
      refine awp_ret ?_
      obtain rfl := Option.some.inj h
      simp
    · refine condF rfl g52 ?_
      obtain ⟨s68, q69, h⟩ := bs h
      obtain ⟨q70, q71⟩ := cat_ok q69
      try simp at q70
      try simp at q71
      refine last 29 0 [(1, .mptr 0 0), (3, .str s68)] [[.str s1.Unit, .int .i64 s1.Reason.Op, .str s1.Reason.Unit, .bool s1.Compiled, .int .i64 s1.Code, .bool s1.Same]] ?_ fun zz hs => ?_
      · refine st ?_
        simp [q70, q71]
      refine seq_le ?_ hs
      obtain ⟨s72, q73, h⟩ := bs h
      obtain ⟨q74, q75⟩ := cat_ok q73
      try simp at q74
      try simp at q75
      obtain ⟨v76, q77, h⟩ := bs h
      obtain ⟨s78, q79, h⟩ := bs h
      obtain ⟨q80, q81⟩ := cat_ok q79
      try simp at q80
      try simp at q81
      refine cut 29 0 [(2, .str s78)] [[.str s1.Unit, .int .i64 s1.Reason.Op, .str s1.Reason.Unit, .bool s1.Compiled, .int .i64 s1.Code, .bool s1.Same]] ?_ ?_
      · refine st ?_
        simp [q74, q75, q80, q81]
        have r82 := ref55_Error_ok s1.Code v76 q77
        try simp [q74, q75, q80, q81] at r82
        refine callPure r82 (by simp) rfl ?_
        simp [q74, q75, q80, q81]
      refine awp_ret ?_
      obtain rfl := Option.some.inj h
      simp
end Go.Proofs.YtlhikhaailhoaaaDoor
set_option linter.unusedVariables false
set_option linter.unusedSimpArgs false
set_option maxRecDepth 100000
set_option maxHeartbeats 1000000
namespace Go.Proofs.YtlhikhaailhoaaaDoor
open Go Go.Abs
theorem law55_short_ok (s1 : Api.Step) (r : Bool) (h : M.law55_short s1 = some r) : Pure Tryd.prog 11 [.agg [.str s1.Unit, .int .i64 s1.Reason.Op, .str s1.Reason.Unit, .bool s1.Compiled, .int .i64 s1.Code, .bool s1.Same]] (.bool r) := by
  rw [M.law55_short] at h
  refine pure_of_body Tryd.func11 (by rfl) (by rfl) (by simp) (by simp) (by simp) ?_
  refine cut 14 0 [(1, .mptr 0 0)] [[.str s1.Unit, .int .i64 s1.Reason.Op, .str s1.Reason.Unit, .bool s1.Compiled, .int .i64 s1.Code, .bool s1.Same]] ?_ ?_
  · refine st ?_
    simp
  refine cut 14 0 [(2, .bool ((leI (s1.Unit.length : Int) 60) && (leI (s1.Reason.Unit.length : Int) 60)))] [[.str s1.Unit, .int .i64 s1.Reason.Op, .str s1.Reason.Unit, .bool s1.Compiled, .int .i64 s1.Code, .bool s1.Same]] ?_ ?_
  · rcases tf (leI (s1.Unit.length : Int) 60) with g2 | g2
    · have c3 := leT g2
      refine factCS 0 0 rfl rfl fun f4 => ?_
      refine st ?_
      simp [g2]
    · have c5 := leF g2
      refine factCS 0 0 rfl rfl fun f6 => ?_
      refine st ?_
      simp [g2]
  refine awp_ret ?_
  obtain rfl := Option.some.inj h
  simp
end Go.Proofs.YtlhikhaailhoaaaDoor
set_option linter.unusedVariables false
set_option linter.unusedSimpArgs false
set_option maxRecDepth 100000
set_option maxHeartbeats 1000000
namespace Go.Proofs.YtlhikhaailhoaaaDoor
open Go Go.Abs
theorem law55_ExplainSteps_1_ok (s1 : Api.Step) (r : Bool) (h : M.law55_ExplainSteps_1 s1 = some r) : Pure Tryd.prog 15 [.agg [.str s1.Unit, .int .i64 s1.Reason.Op, .str s1.Reason.Unit, .bool s1.Compiled, .int .i64 s1.Code, .bool s1.Same]] (.bool r) := by
  rw [M.law55_ExplainSteps_1] at h
  refine pure_of_body Tryd.func15 (by rfl) (by rfl) (by simp) (by simp) (by simp) ?_
  refine cut 6 0 [(1, .mptr 0 0)] [[.str s1.Unit, .int .i64 s1.Reason.Op, .str s1.Reason.Unit, .bool s1.Compiled, .int .i64 s1.Code, .bool s1.Same]] ?_ ?_
  · refine st ?_
    simp
  obtain ⟨v2, q3, h⟩ := bs h
  refine cut 6 0 [(2, .bool (!v2))] [[.str s1.Unit, .int .i64 s1.Reason.Op, .str s1.Reason.Unit, .bool s1.Compiled, .int .i64 s1.Code, .bool s1.Same]] ?_ ?_
  · refine st ?_
    simp
    have r4 := law55_short_ok s1 v2 q3
    try simp [] at r4
    refine callPure r4 (by simp) rfl ?_
    simp
  refine awp_ret ?_
  obtain rfl := Option.some.inj h
  simp
end Go.Proofs.YtlhikhaailhoaaaDoor
set_option linter.unusedVariables false
set_option linter.unusedSimpArgs false
set_option maxRecDepth 100000
set_option maxHeartbeats 1000000
namespace Go.Proofs.YtlhikhaailhoaaaDoor
open Go Go.Abs
theorem slices_IndexFunc_api_Step_ExplainSteps_1_ok (fuel : Nat) (s1 : (List Api.Step)) (r : Int) (h : M.slices_IndexFunc_api_Step_ExplainSteps_1 fuel s1 = some r) : Pure Tryd.prog 30 [.sl (s1.map Api.Step.c), .fn (.func 15) [] []] (.int .i64 r) := by
  rw [M.slices_IndexFunc_api_Step_ExplainSteps_1] at h
  refine pure_of_body Tryd.func30 (by rfl) (by rfl) (by simp) (by simp) (by simp) ?_
  refine cut 19 0 [(0, .sl (s1.map Api.Step.c)), (1, .fn (.func 15) [] [])] [] ?_ ?_
  · refine st ?_
    simp
  refine awp_seq ?_
  refine cut 19 0 [(0, .sl (s1.map Api.Step.c)), (1, .fn (.func 15) [] []), (7, .int .i64 (s1.length : Int)), (8, .int .i64 0)] [] ?_ ?_
  · refine st ?_
    simp
  refine awp_block ?_
  obtain ⟨o4, l5, h⟩ := bs h
  refine awp_inv (fun p : Nat × Nat => mkS 19 0 [(0, .sl (s1.map Api.Step.c)), (1, .fn (.func 15) [] []), (7, .int .i64 (s1.length : Int)), (8, .int .i64 ((p.2 : Nat) : Int))] []) (fun p => M.slices_IndexFunc_api_Step_ExplainSteps_1_l1 s1 p.1 p.2 = some o4) (fun p => p.1) (fuel, 0) l5 (le_mkS (by simp)) ?_
  rintro ⟨k6, i2⟩ l5
  dsimp only at l5 ⊢
  cases k6 with
  | zero =>
    rw [M.slices_IndexFunc_api_Step_ExplainSteps_1_l1] at l5; cases l5
  | succ k7 =>
    rw [M.slices_IndexFunc_api_Step_ExplainSteps_1_l1] at l5
    refine cut 19 0 [(0, .sl (s1.map Api.Step.c)), (1, .fn (.func 15) [] []), (7, .int .i64 (s1.length : Int)), (8, .int .i64 ((i2 : Nat) : Int)), (9, .bool (ltI ((i2 : Nat) : Int) (s1.length : Int)))] [] ?_ ?_
    · refine st ?_
      simp
    refine awp_seq ?_
    rcases sp l5 with ⟨g8, l5⟩ | ⟨g8, l5⟩
    · have c9 := ltT g8
      refine condT rfl g8 ?_
      refine factL 0 rfl fun f10 => ?_
      rw [List.length_map] at f10
      refine awp_skip ?_
      refine seq_eq ?_
      refine awp_seq ?_
      refine awp_block ?_
      refine cut 19 0 [(0, .sl (s1.map Api.Step.c)), (1, .fn (.func 15) [] []), (5, .int .i64 ((i2 : Nat) : Int)), (7, .int .i64 (s1.length : Int)), (8, .int .i64 ((i2 : Nat) : Int))] [] ?_ ?_
      · refine st ?_
        simp
      obtain ⟨x11, q12, l5⟩ := bs l5
      obtain ⟨v13, q14, l5⟩ := bs l5
      refine cut 19 0 [(0, .sl (s1.map Api.Step.c)), (1, .fn (.func 15) [] []), (5, .int .i64 ((i2 : Nat) : Int)), (7, .int .i64 (s1.length : Int)), (8, .int .i64 ((i2 : Nat) : Int)), (16, .bool v13)] [] ?_ ?_
      · refine st ?_
        simp [q12]
        have r17 := law55_ExplainSteps_1_ok x11 v13 q14
        try simp [q12] at r17
        refine callPure r17 (by simp) rfl ?_
        simp [q12]
      rcases sp l5 with ⟨g15, l5⟩ | ⟨g15, l5⟩
      · refine condT rfl g15 ?_
        refine cut 19 0 [(4, .int .i64 ((i2 : Nat) : Int))] [] ?_ ?_
        · refine st ?_
          simp
        refine awp_ret ?_
        refine ret_blk ?_
        refine ret_seq ?_
        replace h := retL l5 h
        refine ret_seq ?_
        refine ret_blk ?_
        refine ret_seq ?_
        obtain rfl := Option.some.inj h
        simp
      · refine condF rfl g15 ?_
        refine awp_skip ?_
        refine blk_n ?_
        refine seq_eq ?_
        have q16 : Rng .i64 (((i2 : Nat) : Int) + 1) := by simp only [Rng, inR]; omega
        try simp at q16
        refine last 19 0 [(0, .sl (s1.map Api.Step.c)), (1, .fn (.func 15) [] []), (7, .int .i64 (s1.length : Int)), (8, .int .i64 ((i2 + 1 : Nat) : Int))] [] ?_ fun zz hs => ?_
        · refine st ?_
          simp [q16]
        exact ⟨(k7, i2 + 1), hs, l5, by simp⟩
    · have c18 := ltF g8
      refine condF rfl g8 ?_
      refine factL 0 rfl fun f19 => ?_
      rw [List.length_map] at f19
      refine awp_exit ?_
      refine exit_seq ?_
      rcases o4 with o4 | o3
      · cases l5
      have q20 := Sum.inr.inj (Option.some.inj l5)
      replace h := elimR h
      refine exit_seq ?_
      refine exit_blk ?_
      refine seq_le (t := mkS 19 0 [] []) ?_ (le_mkS (by simp []))
      refine cut 19 0 [(4, .int .i64 (-1))] [] ?_ ?_
      · refine st ?_
        simp
      refine awp_ret ?_
      obtain rfl := Option.some.inj h
      simp
end Go.Proofs.YtlhikhaailhoaaaDoor
set_option linter.unusedVariables false
set_option linter.unusedSimpArgs false
set_option maxRecDepth 100000
set_option maxHeartbeats 1000000
namespace Go.Proofs.YtlhikhaailhoaaaDoor
open Go Go.Abs
theorem slices_ContainsFunc_api_Step_ExplainSteps_1_ok (fuel : Nat) (s1 : (List Api.Step)) (r : Bool) (h : M.slices_ContainsFunc_api_Step_ExplainSteps_1 fuel s1 = some r) : Pure Tryd.prog 14 [.sl (s1.map Api.Step.c), .fn (.func 15) [] []] (.bool r) := by
  rw [M.slices_ContainsFunc_api_Step_ExplainSteps_1] at h
  refine pure_of_body Tryd.func14 (by rfl) (by rfl) (by simp) (by simp) (by simp) ?_
  refine cut 9 0 [(0, .sl (s1.map Api.Step.c)), (1, .fn (.func 15) [] [])] [] ?_ ?_
  · refine st ?_
    simp
  obtain ⟨v2, q3, h⟩ := bs h
  refine cut 9 0 [(4, .bool (leI 0 v2))] [] ?_ ?_
  · refine st ?_
    simp
    have r4 := slices_IndexFunc_api_Step_ExplainSteps_1_ok fuel s1 v2 q3
    try simp [] at r4
    refine callPure r4 (by simp) rfl ?_
    simp
  refine awp_ret ?_
  obtain rfl := Option.some.inj h
  simp
end Go.Proofs.YtlhikhaailhoaaaDoor
set_option linter.unusedVariables false
set_option linter.unusedSimpArgs false
set_option maxRecDepth 100000
set_option maxHeartbeats 1000000
namespace Go.Proofs.YtlhikhaailhoaaaDoor
open Go Go.Abs
theorem explain_Steps_1_ok (fuel : Nat) (s1 : Api.Step) (r : Bool) (h : M.explain_Steps_1 fuel s1 = some r) : Pure Tryd.prog 31 [.agg [.str s1.Unit, .int .i64 s1.Reason.Op, .str s1.Reason.Unit, .bool s1.Compiled, .int .i64 s1.Code, .bool s1.Same]] (.bool r) := by
  rw [M.explain_Steps_1] at h
  refine pure_of_body Tryd.func31 (by rfl) (by rfl) (by simp) (by simp) (by simp) ?_
  refine cut 6 0 [(1, .mptr 0 0)] [[.str s1.Unit, .int .i64 s1.Reason.Op, .str s1.Reason.Unit, .bool s1.Compiled, .int .i64 s1.Code, .bool s1.Same]] ?_ ?_
  · refine st ?_
    simp
  obtain ⟨v2, q3, h⟩ := bs h
  refine cut 6 0 [(2, .bool (!v2))] [[.str s1.Unit, .int .i64 s1.Reason.Op, .str s1.Reason.Unit, .bool s1.Compiled, .int .i64 s1.Code, .bool s1.Same]] ?_ ?_
  · refine st ?_
    simp
    have r4 := explain_valid_ok fuel s1 v2 q3
    try simp [] at r4
    refine callPure r4 (by simp) rfl ?_
    simp
  refine awp_ret ?_
  obtain rfl := Option.some.inj h
  simp
end Go.Proofs.YtlhikhaailhoaaaDoor
set_option linter.unusedVariables false
set_option linter.unusedSimpArgs false
set_option maxRecDepth 100000
set_option maxHeartbeats 1000000
namespace Go.Proofs.YtlhikhaailhoaaaDoor
open Go Go.Abs
theorem slices_IndexFunc_api_Step_Steps_1_ok (fuel : Nat) (s1 : (List Api.Step)) (r : Int) (h : M.slices_IndexFunc_api_Step_Steps_1 fuel s1 = some r) : Pure Tryd.prog 30 [.sl (s1.map Api.Step.c), .fn (.func 31) [] []] (.int .i64 r) := by
  rw [M.slices_IndexFunc_api_Step_Steps_1] at h
  refine pure_of_body Tryd.func30 (by rfl) (by rfl) (by simp) (by simp) (by simp) ?_
  refine cut 19 0 [(0, .sl (s1.map Api.Step.c)), (1, .fn (.func 31) [] [])] [] ?_ ?_
  · refine st ?_
    simp
  refine awp_seq ?_
  refine cut 19 0 [(0, .sl (s1.map Api.Step.c)), (1, .fn (.func 31) [] []), (7, .int .i64 (s1.length : Int)), (8, .int .i64 0)] [] ?_ ?_
  · refine st ?_
    simp
  refine awp_block ?_
  obtain ⟨o4, l5, h⟩ := bs h
  refine awp_inv (fun p : Nat × Nat => mkS 19 0 [(0, .sl (s1.map Api.Step.c)), (1, .fn (.func 31) [] []), (7, .int .i64 (s1.length : Int)), (8, .int .i64 ((p.2 : Nat) : Int))] []) (fun p => M.slices_IndexFunc_api_Step_Steps_1_l1 fuel s1 p.1 p.2 = some o4) (fun p => p.1) (fuel, 0) l5 (le_mkS (by simp)) ?_
  rintro ⟨k6, i2⟩ l5
  dsimp only at l5 ⊢
  cases k6 with
  | zero =>
    rw [M.slices_IndexFunc_api_Step_Steps_1_l1] at l5; cases l5
  | succ k7 =>
    rw [M.slices_IndexFunc_api_Step_Steps_1_l1] at l5
    refine cut 19 0 [(0, .sl (s1.map Api.Step.c)), (1, .fn (.func 31) [] []), (7, .int .i64 (s1.length : Int)), (8, .int .i64 ((i2 : Nat) : Int)), (9, .bool (ltI ((i2 : Nat) : Int) (s1.length : Int)))] [] ?_ ?_
    · refine st ?_
      simp
    refine awp_seq ?_
    rcases sp l5 with ⟨g8, l5⟩ | ⟨g8, l5⟩
    · have c9 := ltT g8
      refine condT rfl g8 ?_
      refine factL 0 rfl fun f10 => ?_
      rw [List.length_map] at f10
      refine awp_skip ?_
      refine seq_eq ?_
      refine awp_seq ?_
      refine awp_block ?_
      refine cut 19 0 [(0, .sl (s1.map Api.Step.c)), (1, .fn (.func 31) [] []), (5, .int .i64 ((i2 : Nat) : Int)), (7, .int .i64 (s1.length : Int)), (8, .int .i64 ((i2 : Nat) : Int))] [] ?_ ?_
      · refine st ?_
        simp
      obtain ⟨x11, q12, l5⟩ := bs l5
      obtain ⟨v13, q14, l5⟩ := bs l5
      refine cut 19 0 [(0, .sl (s1.map Api.Step.c)), (1, .fn (.func 31) [] []), (5, .int .i64 ((i2 : Nat) : Int)), (7, .int .i64 (s1.length : Int)), (8, .int .i64 ((i2 : Nat) : Int)), (16, .bool v13)] [] ?_ ?_
      · refine st ?_
        simp [q12]
        have r17 := explain_Steps_1_ok fuel x11 v13 q14
        try simp [q12] at r17
        refine callPure r17 (by simp) rfl ?_
        simp [q12]
      rcases sp l5 with ⟨g15, l5⟩ | ⟨g15, l5⟩
      · refine condT rfl g15 ?_
        refine cut 19 0 [(4, .int .i64 ((i2 : Nat) : Int))] [] ?_ ?_
        · refine st ?_
          simp
        refine awp_ret ?_
        refine ret_blk ?_
        refine ret_seq ?_
        replace h := retL l5 h
        refine ret_seq ?_
        refine ret_blk ?_
        refine ret_seq ?_
        obtain rfl := Option.some.inj h
        simp
      · refine condF rfl g15 ?_
        refine awp_skip ?_
        refine blk_n ?_
        refine seq_eq ?_
        have q16 : Rng .i64 (((i2 : Nat) : Int) + 1) := by simp only [Rng, inR]; omega
        try simp at q16
        refine last 19 0 [(0, .sl (s1.map Api.Step.c)), (1, .fn (.func 31) [] []), (7, .int .i64 (s1.length : Int)), (8, .int .i64 ((i2 + 1 : Nat) : Int))] [] ?_ fun zz hs => ?_
        · refine st ?_
          simp [q16]
        exact ⟨(k7, i2 + 1), hs, l5, by simp⟩
    · have c18 := ltF g8
      refine condF rfl g8 ?_
      refine factL 0 rfl fun f19 => ?_
      rw [List.length_map] at f19
      refine awp_exit ?_
      refine exit_seq ?_
      rcases o4 with o4 | o3
      · cases l5
      have q20 := Sum.inr.inj (Option.some.inj l5)
      replace h := elimR h
      refine exit_seq ?_
      refine exit_blk ?_
      refine seq_le (t := mkS 19 0 [] []) ?_ (le_mkS (by simp []))
      refine cut 19 0 [(4, .int .i64 (-1))] [] ?_ ?_
      · refine st ?_
        simp
      refine awp_ret ?_
      obtain rfl := Option.some.inj h
      simp
end Go.Proofs.YtlhikhaailhoaaaDoor
set_option linter.unusedVariables false
set_option linter.unusedSimpArgs false
set_option maxRecDepth 100000
set_option maxHeartbeats 1000000
namespace Go.Proofs.YtlhikhaailhoaaaDoor
open Go Go.Abs
theorem slices_ContainsFunc_api_Step_Steps_1_ok (fuel : Nat) (s1 : (List Api.Step)) (r : Bool) (h : M.slices_ContainsFunc_api_Step_Steps_1 fuel s1 = some r) : Pure Tryd.prog 14 [.sl (s1.map Api.Step.c), .fn (.func 31) [] []] (.bool r) := by
  rw [M.slices_ContainsFunc_api_Step_Steps_1] at h
  refine pure_of_body Tryd.func14 (by rfl) (by rfl) (by simp) (by simp) (by simp) ?_
  refine cut 9 0 [(0, .sl (s1.map Api.Step.c)), (1, .fn (.func 31) [] [])] [] ?_ ?_
  · refine st ?_
    simp
  obtain ⟨v2, q3, h⟩ := bs h
  refine cut 9 0 [(4, .bool (leI 0 v2))] [] ?_ ?_
  · refine st ?_
    simp
    have r4 := slices_IndexFunc_api_Step_Steps_1_ok fuel s1 v2 q3
    try simp [] at r4
    refine callPure r4 (by simp) rfl ?_
    simp
  refine awp_ret ?_
  obtain rfl := Option.some.inj h
  simp
end Go.Proofs.YtlhikhaailhoaaaDoor
set_option linter.unusedVariables false
set_option linter.unusedSimpArgs false
set_option maxRecDepth 100000
set_option maxHeartbeats 1000000
namespace Go.Proofs.YtlhikhaailhoaaaDoor
open Go Go.Abs
theorem strings_Builder_WriteString_ok (s1 : (List UInt8)) (b2 : (List UInt8)) (r : Int × (List UInt8)) (h : M.strings_Builder_WriteString s1 b2 = some r) : Raw Tryd.prog 32 [.mptr 0 0, .str s1] [[.baddr 61 0, .osl ⟨1, 5⟩ (b2.map cU)]] (.tup [.int .i64 r.1, .nilif]) [[.baddr 61 0, .osl ⟨1, 5⟩ (r.2.map cU)]] := by
  rw [M.strings_Builder_WriteString] at h
  refine raw_of_bodyB Tryd.func32 (by rfl) (by rfl) (by simp) (by simp) ?_
  refine cut 19 1 [(0, .mptr 0 0), (1, .str s1)] [[.baddr 61 0, .osl ⟨1, 5⟩ (b2.map cU)]] ?_ ?_
  · refine st ?_
    simp
  obtain ⟨v3, q4, h⟩ := bs h
  refine cut 19 1 [(0, .mptr 0 0), (1, .str s1)] [[.baddr 61 0, .osl ⟨1, 5⟩ (b2.map cU)]] ?_ ?_
  · refine st ?_
    simp
    have r9 := (strings_Builder_copyCheck_ok b2 v3 q4).frame [0] [[.baddr 61 0, .osl ⟨1, 5⟩ (b2.map cU)]] (by simp)
    try simp [] at r9
    refine callRaw r9 (by simp []) rfl ?_
    simp
  obtain ⟨l5, q6, h⟩ := bs h
  obtain ⟨q7, q8⟩ := app_ok q6
  try simp at q7
  refine cut 19 1 [(1, .str s1)] [[.baddr 61 0, .osl ⟨1, 5⟩ (l5.map cU)]] ?_ ?_
  · refine st ?_
    simp [q7, q8]
  refine cut 19 1 [(4, .int .i64 (s1.length : Int)), (5, .nilif)] [[.baddr 61 0, .osl ⟨1, 5⟩ (l5.map cU)]] ?_ ?_
  · refine st ?_
    simp
  refine awp_ret ?_
  obtain rfl := Option.some.inj h
  simp
end Go.Proofs.YtlhikhaailhoaaaDoor
set_option linter.unusedVariables false
set_option linter.unusedSimpArgs false
set_option maxRecDepth 100000
set_option maxHeartbeats 1000000
namespace Go.Proofs.YtlhikhaailhoaaaDoor
open Go Go.Abs
theorem strings_Builder_Len_ok (b1 : (List UInt8)) (r : Int) (h : M.strings_Builder_Len b1 = some r) : Raw Tryd.prog 33 [.mptr 0 0] [[.baddr 61 0, .osl ⟨1, 5⟩ (b1.map cU)]] (.int .i64 r) [[.baddr 61 0, .osl ⟨1, 5⟩ (b1.map cU)]] := by
  rw [M.strings_Builder_Len] at h
  refine raw_of_bodyB Tryd.func33 (by rfl) (by rfl) (by simp) (by simp) ?_
  refine cut 8 1 [(0, .mptr 0 0)] [[.baddr 61 0, .osl ⟨1, 5⟩ (b1.map cU)]] ?_ ?_
  · refine st ?_
    simp
  refine cut 8 1 [(2, .int .i64 (b1.length : Int))] [[.baddr 61 0, .osl ⟨1, 5⟩ (b1.map cU)]] ?_ ?_
  · refine st ?_
    simp
  refine awp_ret ?_
  obtain rfl := Option.some.inj h
  simp
end Go.Proofs.YtlhikhaailhoaaaDoor
set_option linter.unusedVariables false
set_option linter.unusedSimpArgs false
set_option maxRecDepth 100000
set_option maxHeartbeats 1000000
namespace Go.Proofs.YtlhikhaailhoaaaDoor
open Go Go.Abs
theorem explain_Steps_ok (fuel : Nat) (l1 : (List Api.Step)) (r : (List UInt8) × Int) (h : M.explain_Steps fuel l1 = some r) : Pure Tryd.prog 16 [.sl (l1.map Api.Step.c)] (.tup [.str r.1, .int .i64 r.2]) := by
  rw [M.explain_Steps] at h
  refine pure_of_body Tryd.func16 (by rfl) (by rfl) (by simp) (by simp) (by simp) ?_
  refine cut 32 0 [(0, .sl (l1.map Api.Step.c))] [] ?_ ?_
  · refine st ?_
    simp
  refine awp_seq ?_
  obtain ⟨v2, q3, h⟩ := bs h
  refine cut 32 0 [(0, .sl (l1.map Api.Step.c)), (10, .bool v2)] [] ?_ ?_
  · refine st ?_
    simp
    have r42 := slices_ContainsFunc_api_Step_Steps_1_ok fuel l1 v2 q3
    try simp [] at r42
    refine callPure r42 (by simp) rfl ?_
    simp
  rcases sp h with ⟨g4, h⟩ | ⟨g4, h⟩
  · refine condT rfl g4 ?_
    refine cut 32 0 [(2, .str ([] : List UInt8)), (3, .int .i64 1)] [] ?_ ?_
    · refine st ?_
      simp
    refine awp_ret ?_
    refine ret_seq ?_
    obtain rfl := Option.some.inj h
    simp
  · refine condF rfl g4 ?_
    refine awp_skip ?_
    refine seq_eq ?_
    refine awp_seq ?_
    refine cut 32 0 [(0, .sl (l1.map Api.Step.c)), (13, .bool (ltI 1000 (l1.length : Int)))] [] ?_ ?_
    · refine st ?_
      simp
    rcases sp h with ⟨g5, h⟩ | ⟨g5, h⟩
    · have c6 := ltT g5
      refine condT rfl g5 ?_
      refine factL 0 rfl fun f7 => ?_
      rw [List.length_map] at f7
      refine cut 32 0 [(2, .str ([] : List UInt8)), (3, .int .i64 5)] [] ?_ ?_
      · refine st ?_
        simp
      refine awp_ret ?_
      refine ret_seq ?_
      obtain rfl := Option.some.inj h
      simp
    · have c8 := ltF g5
      refine condF rfl g5 ?_
      refine factL 0 rfl fun f9 => ?_
      rw [List.length_map] at f9
      refine awp_skip ?_
      refine seq_eq ?_
      refine cut 32 0 [(0, .sl (l1.map Api.Step.c)), (4, .mptr 0 0)] [[.baddr 61 0, .osl ⟨1, 5⟩ (([] : List UInt8).map cU)]] ?_ ?_
      · refine st ?_
        simp
      refine awp_seq ?_
      refine cut 32 0 [(4, .mptr 0 0), (14, .sl (l1.map Api.Step.c)), (15, .int .i64 (l1.length : Int)), (16, .int .i64 0)] [[.baddr 61 0, .osl ⟨1, 5⟩ (([] : List UInt8).map cU)]] ?_ ?_
      · refine st ?_
        simp
      refine awp_block ?_
      obtain ⟨o12, l13, h⟩ := bs h
      refine awp_inv (fun p : Nat × (List UInt8) × Nat => mkS 32 0 [(4, .mptr 0 0), (14, .sl (l1.map Api.Step.c)), (15, .int .i64 (l1.length : Int)), (16, .int .i64 ((p.2.2 : Nat) : Int))] [[.baddr 61 0, .osl ⟨1, 5⟩ (p.2.1.map cU)]]) (fun p => M.explain_Steps_l1 fuel l1 p.1 p.2.1 p.2.2 = some o12) (fun p => p.1) (fuel, ([] : List UInt8), 0) l13 (le_mkS (by simp)) ?_
      rintro ⟨k14, buf10, i11⟩ l13
      dsimp only at l13 ⊢
      cases k14 with
      | zero =>
        rw [M.explain_Steps_l1] at l13; cases l13
      | succ k15 =>
        rw [M.explain_Steps_l1] at l13
        refine cut 32 0 [(4, .mptr 0 0), (14, .sl (l1.map Api.Step.c)), (15, .int .i64 (l1.length : Int)), (16, .int .i64 ((i11 : Nat) : Int)), (17, .bool (ltI ((i11 : Nat) : Int) (l1.length : Int)))] [[.baddr 61 0, .osl ⟨1, 5⟩ (buf10.map cU)]] ?_ ?_
        · refine st ?_
          simp
        refine awp_seq ?_
        rcases sp l13 with ⟨g16, l13⟩ | ⟨g16, l13⟩
        · have c17 := ltT g16
          refine condT rfl g16 ?_
          refine awp_skip ?_
          refine seq_eq ?_
          refine awp_seq ?_
          refine awp_block ?_
          obtain ⟨x18, q19, l13⟩ := bs l13
          refine cut 32 0 [(4, .mptr 0 0), (6, .mptr 1 0), (14, .sl (l1.map Api.Step.c)), (15, .int .i64 (l1.length : Int)), (16, .int .i64 ((i11 : Nat) : Int))] [[.baddr 61 0, .osl ⟨1, 5⟩ (buf10.map cU)], [.str x18.Unit, .int .i64 x18.Reason.Op, .str x18.Reason.Unit, .bool x18.Compiled, .int .i64 x18.Code, .bool x18.Same]] ?_ ?_
          · refine st ?_
            simp [q19]
          obtain ⟨v20, q21, l13⟩ := bs l13
          refine cut 32 0 [(4, .mptr 0 0), (7, .str v20.1), (14, .sl (l1.map Api.Step.c)), (15, .int .i64 (l1.length : Int)), (16, .int .i64 ((i11 : Nat) : Int))] [[.baddr 61 0, .osl ⟨1, 5⟩ (buf10.map cU)], [.str x18.Unit, .int .i64 x18.Reason.Op, .str x18.Reason.Unit, .bool x18.Compiled, .int .i64 x18.Code, .bool x18.Same]] ?_ ?_
          · refine st ?_
            simp
            have r30 := explain_Step_ok fuel x18 v20 q21
            try simp [] at r30
            refine callPure r30 (by simp) rfl ?_
            simp
          obtain ⟨s22, q23, l13⟩ := bs l13
          obtain ⟨q24, q25⟩ := cat_ok q23
          try simp at q24
          try simp at q25
          obtain ⟨v26, q27, l13⟩ := bs l13
          refine last 32 0 [(4, .mptr 0 0), (14, .sl (l1.map Api.Step.c)), (15, .int .i64 (l1.length : Int)), (16, .int .i64 ((i11 : Nat) : Int))] [[.baddr 61 0, .osl ⟨1, 5⟩ (v26.2.map cU)], [.str x18.Unit, .int .i64 x18.Reason.Op, .str x18.Reason.Unit, .bool x18.Compiled, .int .i64 x18.Code, .bool x18.Same]] ?_ fun zz hs => ?_
          · refine st ?_
            simp [q24, q25]
            have r29 := (strings_Builder_WriteString_ok s22 buf10 v26 q27).frame [0] [[.baddr 61 0, .osl ⟨1, 5⟩ (buf10.map cU)], [.str x18.Unit, .int .i64 x18.Reason.Op, .str x18.Reason.Unit, .bool x18.Compiled, .int .i64 x18.Code, .bool x18.Same]] (by simp)
            try simp [q24, q25] at r29
            refine callRaw r29 (by simp [q24, q25]) rfl ?_
            simp [q24, q25]
          refine blk_n ?_
          refine seq_le ?_ hs
          have q28 : Rng .i64 (((i11 : Nat) : Int) + 1) := by simp only [Rng, inR]; omega
          try simp at q28
          refine last 32 0 [(4, .mptr 0 0), (14, .sl (l1.map Api.Step.c)), (15, .int .i64 (l1.length : Int)), (16, .int .i64 ((i11 + 1 : Nat) : Int))] [[.baddr 61 0, .osl ⟨1, 5⟩ (v26.2.map cU)]] ?_ fun zz hs => ?_
          · refine st ?_
            simp [q28]
          exact ⟨(k15, v26.2, i11 + 1), hs, l13, by simp⟩
        · have c31 := ltF g16
          refine condF rfl g16 ?_
          refine awp_exit ?_
          refine exit_seq ?_
          have q32 := Option.some.inj l13
          have q32 := q32.symm
          refine exit_seq ?_
          refine exit_blk ?_
          refine seq_le (t := mkS 32 0 [(4, .mptr 0 0)] [[.baddr 61 0, .osl ⟨1, 5⟩ (o12.map cU)]]) ?_ (le_mkS (by simp [q32]))
          refine awp_seq ?_
          obtain ⟨v33, q34, h⟩ := bs h
          refine cut 32 0 [(4, .mptr 0 0), (30, .bool (ltI 16384 v33))] [[.baddr 61 0, .osl ⟨1, 5⟩ (o12.map cU)]] ?_ ?_
          · refine st ?_
            simp
            have r41 := (strings_Builder_Len_ok o12 v33 q34).frame [0] [[.baddr 61 0, .osl ⟨1, 5⟩ (o12.map cU)]] (by simp)
            try simp [] at r41
            refine callRaw r41 (by simp []) rfl ?_
            simp
          rcases sp h with ⟨g35, h⟩ | ⟨g35, h⟩
          · have c36 := ltT g35
            refine condT rfl g35 ?_
            refine cut 32 0 [(2, .str ([] : List UInt8)), (3, .int .i64 5)] [[.baddr 61 0, .osl ⟨1, 5⟩ (o12.map cU)]] ?_ ?_
            · refine st ?_
              simp
            refine awp_ret ?_
            refine ret_seq ?_
            obtain rfl := Option.some.inj h
            simp
          · have c37 := ltF g35
            refine condF rfl g35 ?_
            refine awp_skip ?_
            refine seq_eq ?_
            obtain ⟨v38, q39, h⟩ := bs h
            refine cut 32 0 [(2, .str v38), (3, .int .i64 0)] [[.baddr 61 0, .osl ⟨1, 5⟩ (o12.map cU)]] ?_ ?_
            · refine st ?_
              simp
              have r40 := (strings_Builder_String_ok o12 v38 q39).frame [0] [[.baddr 61 0, .osl ⟨1, 5⟩ (o12.map cU)]] (by simp)
              try simp [] at r40
              refine callRaw r40 (by simp []) rfl ?_
              simp
            refine awp_ret ?_
            obtain rfl := Option.some.inj h
            simp
end Go.Proofs.YtlhikhaailhoaaaDoor
set_option linter.unusedVariables false
set_option linter.unusedSimpArgs false
set_option maxRecDepth 100000
set_option maxHeartbeats 1000000
namespace Go.Proofs.YtlhikhaailhoaaaDoor
open Go Go.Abs
theorem ref55_Steps_ok (fuel : Nat) (l1 : (List Api.Step)) (r : (List UInt8) × Int) (h : M.ref55_Steps fuel l1 = some r) : Pure Tryd.prog 17 [.sl (l1.map Api.Step.c)] (.tup [.str r.1, .int .i64 r.2]) := by
  rw [M.ref55_Steps] at h
  refine pure_of_body Tryd.func17 (by rfl) (by rfl) (by simp) (by simp) (by simp) ?_
  refine cut 42 0 [(0, .sl (l1.map Api.Step.c))] [] ?_ ?_
  · refine st ?_
    simp
  refine awp_seq ?_
  refine cut 42 0 [(0, .sl (l1.map Api.Step.c)), (4, .int .i64 0)] [] ?_ ?_
  · refine st ?_
    simp
  refine awp_block ?_
  obtain ⟨o4, l5, h⟩ := bs h
  refine awp_inv (fun p : Nat × Nat => mkS 42 0 [(0, .sl (l1.map Api.Step.c)), (4, .int .i64 ((p.2 : Nat) : Int))] []) (fun p => M.ref55_Steps_l1 fuel l1 p.1 p.2 = some o4) (fun p => p.1) (fuel, 0) l5 (le_mkS (by simp)) ?_
  rintro ⟨k6, i2⟩ l5
  dsimp only at l5 ⊢
  cases k6 with
  | zero =>
    rw [M.ref55_Steps_l1] at l5; cases l5
  | succ k7 =>
    rw [M.ref55_Steps_l1] at l5
    refine awp_seq ?_
    refine cut 42 0 [(0, .sl (l1.map Api.Step.c)), (4, .int .i64 ((i2 : Nat) : Int)), (10, .bool (ltI ((i2 : Nat) : Int) (l1.length : Int)))] [] ?_ ?_
    · refine st ?_
      simp
    rcases sp l5 with ⟨g8, l5⟩ | ⟨g8, l5⟩
    · have c9 := ltT g8
      refine condT rfl g8 ?_
      refine factL 0 rfl fun f10 => ?_
      rw [List.length_map] at f10
      refine awp_skip ?_
      refine seq_eq ?_
      refine awp_seq ?_
      refine awp_block ?_
      obtain ⟨x11, q12, l5⟩ := bs l5
      obtain ⟨v13, q14, l5⟩ := bs l5
      refine cut 42 0 [(0, .sl (l1.map Api.Step.c)), (4, .int .i64 ((i2 : Nat) : Int)), (18, .bool (!v13))] [] ?_ ?_
      · refine st ?_
        simp [q12]
        have r19 := ref55_Valid_ok fuel x11 v13 q14
        try simp [q12] at r19
        refine callPure r19 (by simp) rfl ?_
        simp [q12]
      rcases sp l5 with ⟨g15, l5⟩ | ⟨g15, l5⟩
      · have g16 := notT g15
        refine condT rfl g15 ?_
        refine cut 42 0 [(2, .str ([] : List UInt8)), (3, .int .i64 1)] [] ?_ ?_
        · refine st ?_
          simp
        refine awp_ret ?_
        refine ret_blk ?_
        refine ret_seq ?_
        replace h := retL l5 h
        refine ret_seq ?_
        refine ret_blk ?_
        refine ret_seq ?_
        obtain rfl := Option.some.inj h
        simp
      · have g17 := notF g15
        refine condF rfl g15 ?_
        refine awp_skip ?_
        refine blk_n ?_
        refine seq_eq ?_
        have q18 : Rng .i64 (((i2 : Nat) : Int) + 1) := by simp only [Rng, inR]; omega
        try simp at q18
        refine last 42 0 [(0, .sl (l1.map Api.Step.c)), (4, .int .i64 ((i2 + 1 : Nat) : Int))] [] ?_ fun zz hs => ?_
        · refine st ?_
          simp [q18]
        exact ⟨(k7, i2 + 1), hs, l5, by simp⟩
    · have c20 := ltF g8
      refine condF rfl g8 ?_
      refine factL 0 rfl fun f21 => ?_
      rw [List.length_map] at f21
      refine awp_exit ?_
      refine exit_seq ?_
      rcases o4 with o4 | o3
      · cases l5
      have q22 := Sum.inr.inj (Option.some.inj l5)
      replace h := elimR h
      refine exit_seq ?_
      refine exit_blk ?_
      refine seq_le (t := mkS 42 0 [(0, .sl (l1.map Api.Step.c))] []) ?_ (le_mkS (by simp []))
      refine awp_seq ?_
      refine cut 42 0 [(0, .sl (l1.map Api.Step.c)), (21, .bool (ltI 1000 (l1.length : Int)))] [] ?_ ?_
      · refine st ?_
        simp
      rcases sp h with ⟨g23, h⟩ | ⟨g23, h⟩
      · have c24 := ltT g23
        refine condT rfl g23 ?_
        refine factL 0 rfl fun f25 => ?_
        rw [List.length_map] at f25
        refine cut 42 0 [(2, .str ([] : List UInt8)), (3, .int .i64 5)] [] ?_ ?_
        · refine st ?_
          simp
        refine awp_ret ?_
        refine ret_seq ?_
        obtain rfl := Option.some.inj h
        simp
      · have c26 := ltF g23
        refine condF rfl g23 ?_
        refine factL 0 rfl fun f27 => ?_
        rw [List.length_map] at f27
        refine awp_skip ?_
        refine seq_eq ?_
        refine cut 42 0 [(0, .sl (l1.map Api.Step.c)), (5, .osl ⟨1, 5⟩ (([] : List UInt8).map cU))] [] ?_ ?_
        · refine st ?_
          simp
        refine awp_seq ?_
        refine cut 42 0 [(0, .sl (l1.map Api.Step.c)), (5, .osl ⟨1, 5⟩ (([] : List UInt8).map cU)), (6, .int .i64 0)] [] ?_ ?_
        · refine st ?_
          simp
        refine awp_block ?_
        obtain ⟨o30, l31, h⟩ := bs h
        refine awp_inv (fun p : Nat × (List UInt8) × Nat => mkS 42 0 [(0, .sl (l1.map Api.Step.c)), (5, .osl ⟨1, 5⟩ (p.2.1.map cU)), (6, .int .i64 ((p.2.2 : Nat) : Int))] []) (fun p => M.ref55_Steps_l2 l1 p.1 p.2.1 p.2.2 = some o30) (fun p => p.1) (fuel, ([] : List UInt8), 0) l31 (le_mkS (by simp)) ?_
        rintro ⟨k32, b28, i29⟩ l31
        dsimp only at l31 ⊢
        cases k32 with
        | zero =>
          rw [M.ref55_Steps_l2] at l31; cases l31
        | succ k33 =>
          rw [M.ref55_Steps_l2] at l31
          refine awp_seq ?_
          refine cut 42 0 [(0, .sl (l1.map Api.Step.c)), (5, .osl ⟨1, 5⟩ (b28.map cU)), (6, .int .i64 ((i29 : Nat) : Int)), (25, .bool (ltI ((i29 : Nat) : Int) (l1.length : Int)))] [] ?_ ?_
          · refine st ?_
            simp
          rcases sp l31 with ⟨g34, l31⟩ | ⟨g34, l31⟩
          · have c35 := ltT g34
            refine condT rfl g34 ?_
            refine awp_skip ?_
            refine seq_eq ?_
            refine awp_seq ?_
            refine awp_block ?_
            obtain ⟨x36, q37, l31⟩ := bs l31
            obtain ⟨v38, q39, l31⟩ := bs l31
            obtain ⟨l40, q41, l31⟩ := bs l31
            obtain ⟨q42, q43⟩ := app_ok q41
            try simp at q42
            obtain ⟨l44, q45, l31⟩ := bs l31
            obtain ⟨q46, q47⟩ := app_ok q45
            try simp [q43] at q46
            refine last 42 0 [(0, .sl (l1.map Api.Step.c)), (5, .osl ⟨1, 5⟩ (l44.map cU)), (6, .int .i64 ((i29 : Nat) : Int))] [] ?_ fun zz hs => ?_
            · refine st ?_
              simp [q37, q42, q43, q46, q47]
              have r49 := ref55_Text_ok x36 v38 q39
              try simp [q37, q42, q43, q46, q47] at r49
              refine callPure r49 (by simp) rfl ?_
              simp [q37, q42, q43, q46, q47]
            refine blk_n ?_
            refine seq_le ?_ hs
            have q48 : Rng .i64 (((i29 : Nat) : Int) + 1) := by simp only [Rng, inR]; omega
            try simp at q48
            refine last 42 0 [(0, .sl (l1.map Api.Step.c)), (5, .osl ⟨1, 5⟩ (l44.map cU)), (6, .int .i64 ((i29 + 1 : Nat) : Int))] [] ?_ fun zz hs => ?_
            · refine st ?_
              simp [q48]
            exact ⟨(k33, l44, i29 + 1), hs, l31, by simp⟩
          · have c50 := ltF g34
            refine condF rfl g34 ?_
            refine awp_exit ?_
            refine exit_seq ?_
            have q51 := Option.some.inj l31
            have q51 := q51.symm
            refine exit_seq ?_
            refine exit_blk ?_
            refine seq_le (t := mkS 42 0 [(5, .osl ⟨1, 5⟩ (o30.map cU))] []) ?_ (le_mkS (by simp [q51]))
            refine awp_seq ?_
            refine cut 42 0 [(5, .osl ⟨1, 5⟩ (o30.map cU)), (39, .bool (ltI 16384 (o30.length : Int)))] [] ?_ ?_
            · refine st ?_
              simp
            rcases sp h with ⟨g52, h⟩ | ⟨g52, h⟩
            · have c53 := ltT g52
              refine condT rfl g52 ?_
              refine factL 5 rfl fun f54 => ?_
              rw [List.length_map] at f54
              refine cut 42 0 [(2, .str ([] : List UInt8)), (3, .int .i64 5)] [] ?_ ?_
              · refine st ?_
                simp
              refine awp_ret ?_
              refine ret_seq ?_
              obtain rfl := Option.some.inj h
              simp
            · have c55 := ltF g52
              refine condF rfl g52 ?_
              refine factL 5 rfl fun f56 => ?_
              rw [List.length_map] at f56
              refine awp_skip ?_
              refine seq_eq ?_
              refine cut 42 0 [(2, .str o30), (3, .int .i64 0)] [] ?_ ?_
              · refine st ?_
                simp
              refine awp_ret ?_
              obtain rfl := Option.some.inj h
              simp
end Go.Proofs.YtlhikhaailhoaaaDoor
set_option linter.unusedVariables false
set_option linter.unusedSimpArgs false
set_option maxRecDepth 100000
set_option maxHeartbeats 1000000
namespace Go.Proofs.YtlhikhaailhoaaaDoor
open Go Go.Abs
theorem law55_ExplainSteps_ok (fuel : Nat) (l1 : (List Api.Step)) (r : Bool) (h : M.law55_ExplainSteps fuel l1 = some r) : Pure Tryd.prog 5 [.sl (l1.map Api.Step.c)] (.bool r) := by
  rw [M.law55_ExplainSteps] at h
  refine pure_of_body Tryd.func5 (by rfl) (by rfl) (by simp) (by simp) (by simp) ?_
  refine cut 83 0 [(0, .sl (l1.map Api.Step.c))] [] ?_ ?_
  · refine st ?_
    simp
  refine awp_seq ?_
  obtain ⟨v2, q3, h⟩ := bs h
  refine cut 83 0 [(0, .sl (l1.map Api.Step.c)), (12, .bool (!v2))] [] ?_ ?_
  · refine st ?_
    simp
    have r93 := law55_awake_ok fuel v2 q3
    try simp [] at r93
    refine callPure r93 (by simp) rfl ?_
    simp
  rcases sp h with ⟨g4, h⟩ | ⟨g4, h⟩
  · have g5 := notT g4
    refine condT rfl g4 ?_
    refine cut 83 0 [(2, .bool false)] [] ?_ ?_
    · refine st ?_
      simp
    refine awp_ret ?_
    refine ret_seq ?_
    obtain rfl := Option.some.inj h
    simp
  · have g6 := notF g4
    refine condF rfl g4 ?_
    refine awp_skip ?_
    refine seq_eq ?_
    refine awp_seq ?_
    obtain ⟨b25, q26, h⟩ := bs h
    refine cut 83 0 [(0, .sl (l1.map Api.Step.c)), (29, .bool b25)] [] ?_ ?_
    · rcases sp q26 with ⟨g7, q26⟩ | ⟨g7, q26⟩
      · have c8 := ltT g7
        refine factL 0 rfl fun f9 => ?_
        rw [List.length_map] at f9
        rcases sp q26 with ⟨g10, q26⟩ | ⟨g10, q26⟩
        · have c11 := leT g10
          obtain rfl := Option.some.inj q26
          refine st ?_
          simp [g7, g10]
        · have c12 := leF g10
          rcases sp q26 with ⟨g13, q26⟩ | ⟨g13, q26⟩
          · have c14 := ltT g13
            obtain rfl := Option.some.inj q26
            refine st ?_
            simp [g7, g10, g13]
          · have c15 := ltF g13
            obtain ⟨v16, q17, q26⟩ := bs q26
            obtain rfl := Option.some.inj q26
            refine st ?_
            simp [g7, g10, g13]
            have r91 := slices_ContainsFunc_api_Step_ExplainSteps_1_ok fuel l1 v16 q17
            try simp [g7, g10, g13] at r91
            refine callPure r91 (by simp) rfl ?_
            simp [g7, g10, g13]
      · have c18 := ltF g7
        refine factL 0 rfl fun f19 => ?_
        rw [List.length_map] at f19
        rcases sp q26 with ⟨g20, q26⟩ | ⟨g20, q26⟩
        · have c21 := ltT g20
          obtain rfl := Option.some.inj q26
          refine st ?_
          simp [g7, g20]
        · have c22 := ltF g20
          obtain ⟨v23, q24, q26⟩ := bs q26
          obtain rfl := Option.some.inj q26
          refine st ?_
          simp [g7, g20]
          have r92 := slices_ContainsFunc_api_Step_ExplainSteps_1_ok fuel l1 v23 q24
          try simp [g7, g20] at r92
          refine callPure r92 (by simp) rfl ?_
          simp [g7, g20]
    rcases sp h with ⟨g27, h⟩ | ⟨g27, h⟩
    · refine condT rfl g27 ?_
      refine cut 83 0 [(2, .bool true)] [] ?_ ?_
      · refine st ?_
        simp
      refine awp_ret ?_
      refine ret_seq ?_
      obtain rfl := Option.some.inj h
      simp
    · refine condF rfl g27 ?_
      refine awp_skip ?_
      refine seq_eq ?_
      obtain ⟨v28, q29, h⟩ := bs h
      refine cut 83 0 [(0, .sl (l1.map Api.Step.c)), (3, .str v28.1), (4, .int .i64 v28.2)] [] ?_ ?_
      · refine st ?_
        simp
        have r90 := explain_Steps_ok fuel l1 v28 q29
        try simp [] at r90
        refine callPure r90 (by simp) rfl ?_
        simp
      obtain ⟨v30, q31, h⟩ := bs h
      refine cut 83 0 [(0, .sl (l1.map Api.Step.c)), (3, .str v28.1), (4, .int .i64 v28.2), (5, .str v30.1), (6, .int .i64 v30.2)] [] ?_ ?_
      · refine st ?_
        simp
        have r89 := ref55_Steps_ok fuel l1 v30 q31
        try simp [] at r89
        refine callPure r89 (by simp) rfl ?_
        simp
      refine awp_seq ?_
      refine cut 83 0 [(0, .sl (l1.map Api.Step.c)), (47, .bool ((!(eqS v28.1 v30.1)) || (!(eqI v28.2 v30.2))))] [] ?_ ?_
      · rcases tf (!(eqS v28.1 v30.1)) with g32 | g32
        · have g33 := notT g32
          refine st ?_
          simp [g32]
        · have g34 := notF g32
          refine st ?_
          simp [g32]
      rcases sp h with ⟨g35, h⟩ | ⟨g35, h⟩
      · refine condT rfl g35 ?_
        refine cut 83 0 [(2, .bool false)] [] ?_ ?_
        · refine st ?_
          simp
        refine awp_ret ?_
        refine ret_seq ?_
        obtain rfl := Option.some.inj h
        simp
      · obtain ⟨g36, g37⟩ := orF g35
        have g38 := notF g36
        have g39 := notF g37
        have c40 := eqT g39
        refine condF rfl g35 ?_
        refine awp_skip ?_
        refine seq_eq ?_
        refine awp_seq ?_
        obtain ⟨l41, q42, h⟩ := bs h
        obtain ⟨q43, q44⟩ := subC_ok q42
        try simp at q43
        try simp at q44
        refine cut 83 0 [(52, .sl (l41.map Api.Step.c)), (53, .int .i64 (l41.length : Int)), (54, .int .i64 0)] [] ?_ ?_
        · refine st ?_
          simp [q43, q44]
        refine awp_block ?_
        obtain ⟨o47, l48, h⟩ := bs h
        refine awp_inv (fun p : Nat × Nat => mkS 83 0 [(52, .sl (l41.map Api.Step.c)), (53, .int .i64 (l41.length : Int)), (54, .int .i64 ((p.2 : Nat) : Int))] []) (fun p => M.law55_ExplainSteps_l1 fuel l41 p.1 p.2 = some o47) (fun p => p.1) (fuel, 0) l48 (le_mkS (by simp)) ?_
        rintro ⟨k49, i45⟩ l48
        dsimp only at l48 ⊢
        cases k49 with
        | zero =>
          rw [M.law55_ExplainSteps_l1] at l48; cases l48
        | succ k50 =>
          rw [M.law55_ExplainSteps_l1] at l48
          refine cut 83 0 [(52, .sl (l41.map Api.Step.c)), (53, .int .i64 (l41.length : Int)), (54, .int .i64 ((i45 : Nat) : Int)), (55, .bool (ltI ((i45 : Nat) : Int) (l41.length : Int)))] [] ?_ ?_
          · refine st ?_
            simp
          refine awp_seq ?_
          rcases sp l48 with ⟨g51, l48⟩ | ⟨g51, l48⟩
          · have c52 := ltT g51
            refine condT rfl g51 ?_
            refine factL 52 rfl fun f53 => ?_
            rw [List.length_map] at f53
            refine awp_skip ?_
            refine seq_eq ?_
            refine awp_seq ?_
            refine awp_block ?_
            obtain ⟨x54, q55, l48⟩ := bs l48
            refine cut 83 0 [(8, .mptr 0 0), (52, .sl (l41.map Api.Step.c)), (53, .int .i64 (l41.length : Int)), (54, .int .i64 ((i45 : Nat) : Int))] [[.str x54.Unit, .int .i64 x54.Reason.Op, .str x54.Reason.Unit, .bool x54.Compiled, .int .i64 x54.Code, .bool x54.Same]] ?_ ?_
            · refine st ?_
              simp [q55]
            obtain ⟨v56, q57, l48⟩ := bs l48
            refine cut 83 0 [(8, .mptr 0 0), (9, .str v56.1), (10, .int .i64 v56.2), (52, .sl (l41.map Api.Step.c)), (53, .int .i64 (l41.length : Int)), (54, .int .i64 ((i45 : Nat) : Int))] [[.str x54.Unit, .int .i64 x54.Reason.Op, .str x54.Reason.Unit, .bool x54.Compiled, .int .i64 x54.Code, .bool x54.Same]] ?_ ?_
            · refine st ?_
              simp
              have r85 := explain_Step_ok fuel x54 v56 q57
              try simp [] at r85
              refine callPure r85 (by simp) rfl ?_
              simp
            refine awp_block ?_
            obtain ⟨v58, q59, l48⟩ := bs l48
            refine cut 83 0 [(8, .mptr 0 0), (9, .str v56.1), (10, .int .i64 v56.2), (52, .sl (l41.map Api.Step.c)), (53, .int .i64 (l41.length : Int)), (54, .int .i64 ((i45 : Nat) : Int)), (63, .bool (!v58))] [[.str x54.Unit, .int .i64 x54.Reason.Op, .str x54.Reason.Unit, .bool x54.Compiled, .int .i64 x54.Code, .bool x54.Same]] ?_ ?_
            · refine st ?_
              simp
              have r84 := ref55_Valid_ok fuel x54 v58 q59
              try simp [] at r84
              refine callPure r84 (by simp) rfl ?_
              simp
            rcases sp l48 with ⟨g60, l48⟩ | ⟨g60, l48⟩
            · have g61 := notT g60
              refine condT rfl g60 ?_
              refine cut 83 0 [(52, .sl (l41.map Api.Step.c)), (53, .int .i64 (l41.length : Int)), (54, .int .i64 ((i45 : Nat) : Int)), (72, .bool ((!(eqS v56.1 ([] : List UInt8))) || (!(eqI v56.2 1))))] [[.str x54.Unit, .int .i64 x54.Reason.Op, .str x54.Reason.Unit, .bool x54.Compiled, .int .i64 x54.Code, .bool x54.Same]] ?_ ?_
              · rcases tf (!(eqS v56.1 ([] : List UInt8))) with g62 | g62
                · have g63 := notT g62
                  refine st ?_
                  simp [g62]
                · have g64 := notF g62
                  refine st ?_
                  simp [g62]
              rcases sp l48 with ⟨g65, l48⟩ | ⟨g65, l48⟩
              · refine condT rfl g65 ?_
                refine cut 83 0 [(2, .bool false)] [[.str x54.Unit, .int .i64 x54.Reason.Op, .str x54.Reason.Unit, .bool x54.Compiled, .int .i64 x54.Code, .bool x54.Same]] ?_ ?_
                · refine st ?_
                  simp
                refine awp_ret ?_
                refine ret_blk ?_
                refine ret_blk ?_
                refine ret_seq ?_
                replace h := retL l48 h
                refine ret_seq ?_
                refine ret_blk ?_
                refine ret_seq ?_
                obtain rfl := Option.some.inj h
                simp
              · obtain ⟨g66, g67⟩ := orF g65
                have g68 := notF g66
                have g69 := notF g67
                have c70 := eqT g69
                refine condF rfl g65 ?_
                refine awp_skip ?_
                refine blk_n ?_
                refine blk_n ?_
                refine seq_eq ?_
                have q71 : Rng .i64 (((i45 : Nat) : Int) + 1) := by simp only [Rng, inR]; omega
                try simp at q71
                refine last 83 0 [(52, .sl (l41.map Api.Step.c)), (53, .int .i64 (l41.length : Int)), (54, .int .i64 ((i45 + 1 : Nat) : Int))] [] ?_ fun zz hs => ?_
                · refine st ?_
                  simp [q71]
                exact ⟨(k50, i45 + 1), hs, l48, by simp⟩
            · have g72 := notF g60
              refine condF rfl g60 ?_
              obtain ⟨b78, q79, l48⟩ := bs l48
              refine cut 83 0 [(52, .sl (l41.map Api.Step.c)), (53, .int .i64 (l41.length : Int)), (54, .int .i64 ((i45 : Nat) : Int)), (73, .bool b78)] [[.str x54.Unit, .int .i64 x54.Reason.Op, .str x54.Reason.Unit, .bool x54.Compiled, .int .i64 x54.Code, .bool x54.Same]] ?_ ?_
              · obtain ⟨v73, q74, q79⟩ := bs q79
                rcases sp q79 with ⟨g75, q79⟩ | ⟨g75, q79⟩
                · have g76 := notT g75
                  obtain rfl := Option.some.inj q79
                  refine st ?_
                  simp [g75]
                  have r82 := ref55_Text_ok x54 v73 q74
                  try simp [g75] at r82
                  refine callPure r82 (by simp) rfl ?_
                  simp [g75]
                · have g77 := notF g75
                  obtain rfl := Option.some.inj q79
                  refine st ?_
                  simp [g75]
                  have r83 := ref55_Text_ok x54 v73 q74
                  try simp [g75] at r83
                  refine callPure r83 (by simp) rfl ?_
                  simp [g75]
              rcases sp l48 with ⟨g80, l48⟩ | ⟨g80, l48⟩
              · refine condT rfl g80 ?_
                refine cut 83 0 [(2, .bool false)] [[.str x54.Unit, .int .i64 x54.Reason.Op, .str x54.Reason.Unit, .bool x54.Compiled, .int .i64 x54.Code, .bool x54.Same]] ?_ ?_
                · refine st ?_
                  simp
                refine awp_ret ?_
                refine ret_blk ?_
                refine ret_blk ?_
                refine ret_seq ?_
                replace h := retL l48 h
                refine ret_seq ?_
                refine ret_blk ?_
                refine ret_seq ?_
                obtain rfl := Option.some.inj h
                simp
              · refine condF rfl g80 ?_
                refine awp_skip ?_
                refine blk_n ?_
                refine blk_n ?_
                refine seq_eq ?_
                have q81 : Rng .i64 (((i45 : Nat) : Int) + 1) := by simp only [Rng, inR]; omega
                try simp at q81
                refine last 83 0 [(52, .sl (l41.map Api.Step.c)), (53, .int .i64 (l41.length : Int)), (54, .int .i64 ((i45 + 1 : Nat) : Int))] [] ?_ fun zz hs => ?_
                · refine st ?_
                  simp [q81]
                exact ⟨(k50, i45 + 1), hs, l48, by simp⟩
          · have c86 := ltF g51
            refine condF rfl g51 ?_
            refine factL 52 rfl fun f87 => ?_
            rw [List.length_map] at f87
            refine awp_exit ?_
            refine exit_seq ?_
            rcases o47 with o47 | o46
            · cases l48
            have q88 := Sum.inr.inj (Option.some.inj l48)
            replace h := elimR h
            refine exit_seq ?_
            refine exit_blk ?_
            refine seq_le (t := mkS 83 0 [] []) ?_ (le_mkS (by simp []))
            refine cut 83 0 [(2, .bool true)] [] ?_ ?_
            · refine st ?_
              simp
            refine awp_ret ?_
            obtain rfl := Option.some.inj h
            simp
end Go.Proofs.YtlhikhaailhoaaaDoor
